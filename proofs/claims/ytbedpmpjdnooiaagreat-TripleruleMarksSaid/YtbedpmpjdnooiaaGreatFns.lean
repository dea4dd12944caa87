/- The functions of the program as Lean functions. -/
import Derived.Test.YtbedpmpjdnooiaaGreatTypes
import Derived.Test.YtbedpmpjdnooiaaGreatSfLib
set_option maxRecDepth 100000
namespace Go.Sf.Sc
open Go Go.Sf
noncomputable def slices_IndexFunc_NodeType (s_0:List NodeType) (f:NodeType->Option Bool):Option Int:=
 thenR (forR (ρ:=Int) (fun (i0:Int) (_:Unit)=>
 (idx s_0 i0).bind fun x14=>
 (f x14).bind fun x16=>
 if x16=true then
 some (.ret i0)
 else
 some (.next ())) 0 (s_0.length:Int) ()) (fun _=>
 some (-1)) (fun v0=>some v0)
noncomputable def slices_ContainsFunc_NodeType (s_0:List NodeType) (f:NodeType->Option Bool):Option Bool:=
 (slices_IndexFunc_NodeType s_0 f).bind fun x7=>
 some (decide (0<=x7))
noncomputable def token_letter (c:Int):Option Bool:=
 some (((decide (97<=c))&&(decide (c<=122)))||((decide (65<=c))&&(decide (c<=90))))
noncomputable def token_run (s_0:ByteArray) (ok:Int->Option Bool):Option Int:=
 thenR (whR (ρ:=Int) (fun (s0:Int)=>
 (if (decide (s0<(s_0.size:Int)))=true then ((sidx s_0 s0).bind fun x14=>
 (ok x14).bind fun x15=>
 some (x15)) else some false).bind fun x16=>
 if x16=true then
 some (.next (w64 (s0+1)))
 else
 some (.brk s0)) 0) (fun s0=>
 some s0) (fun v0=>some v0)
noncomputable def token_digit (c:Int):Option Bool:=
 some ((decide (48<=c))&&(decide (c<=57)))
noncomputable def token_part (c:Int):Option Bool:=
 (token_letter c).bind fun x4=>
 (if x4=true then some true else ((token_digit c).bind fun x7=>
 some (x7))).bind fun x8=>
 some (x8||(decide (c=95)))
noncomputable def token_quoted_1 (c:Int):Option Bool:=
 some (((decide (32<=c))&&(decide (c<=126)))&&(!decide (c=34)))
noncomputable def token_quoted (s_0:ByteArray):Option (Int × Int):=
 (sslc s_0 1 s_0.size).bind fun x6=>
 (token_run x6 token_quoted_1).bind fun x7=>
 (if (decide ((w64 (1+x7))=(s_0.size:Int)))=true then some true else ((sidx s_0 (w64 (1+x7))).bind fun x17=>
 some (!decide (x17=34)))).bind fun x19=>
 if x19=true then
 some (0,2)
 else
 if (decide (60<x7))=true then
 some (0,3)
 else
 some (w64 (x7+2),0)
noncomputable def slices_Index_string (s_0:List ByteArray) (v_1:ByteArray):Option Int:=
 thenR (forR (ρ:=Int) (fun (i0:Int) (_:Unit)=>
 (idx s_0 i0).bind fun x14=>
 if (v_1==x14)=true then
 some (.ret i0)
 else
 some (.next ())) 0 (s_0.length:Int) ()) (fun _=>
 some (-1)) (fun v0=>some v0)
noncomputable def slices_Contains_string (s_0:List ByteArray) (v_1:ByteArray):Option Bool:=
 (slices_Index_string s_0 v_1).bind fun x7=>
 some (decide (0<=x7))
noncomputable def token_pair (s_0:ByteArray):Option Bool:=
 (if (decide (2<=(s_0.size:Int)))=true then ((sslc s_0 0 2).bind fun x9=>
 (slices_Contains_string [(⟨#[45,62]⟩:ByteArray),(⟨#[60,61]⟩:ByteArray),(⟨#[62,61]⟩:ByteArray),(⟨#[61,61]⟩:ByteArray),(⟨#[33,61]⟩:ByteArray)] x9).bind fun x10=>
 some (x10)) else some false).bind fun x11=>
 some x11
noncomputable def strings_IndexByte (s:ByteArray) (c:Int):Option Int:=some (Go.Lib.indexByte s.data.toList c.toNat.toUInt8)
noncomputable def token_next (s_0:ByteArray):Option (Int × Int × Int):=
 (sidx s_0 0).bind fun x11=>
 (token_letter x11).bind fun x14=>
 if x14=true then
 (token_run s_0 token_part).bind fun x16=>
 if (decide (20<x16))=true then
 some (0,0,3)
 else
 some (1,x16,0)
 else
 (token_digit x11).bind fun x22=>
 if x22=true then
 (token_run s_0 token_digit).bind fun x24=>
 if (decide (9<x24))=true then
 some (0,0,3)
 else
 some (2,x24,0)
 else
 if (decide (x11=34))=true then
 (token_quoted s_0).bind fun x33=>
 some (3,x33.1,x33.2)
 else
 (token_pair s_0).bind fun x40=>
 if x40=true then
 some (4,2,0)
 else
 (strings_IndexByte (⟨#[123,125,40,41,91,93,44,59,58,61,43,45,42,60,62,33,38,124,46,63]⟩:ByteArray) x11).bind fun x43=>
 if (decide (0<=x43))=true then
 some (4,1,0)
 else
 some (0,0,2)
noncomputable def token_whole (t:Token):Option (ByteArray × Bool):=
 (if (decide (t.Kind=3))=true then
 (sapp (⟨#[34]⟩:ByteArray) t.Text).bind fun x14=>
 (sapp x14 (⟨#[34]⟩:ByteArray)).bind fun x15=>
 some x15
 else
 some t.Text).bind fun w1=>
 if (w1==(⟨#[]⟩:ByteArray))=true then
 some ((⟨#[]⟩:ByteArray),false)
 else
 (token_next w1).bind fun x20=>
 some (w1,((decide (x20.2.2=0))&&(decide (x20.1=t.Kind)))&&(decide (x20.2.1=(w1.size:Int))))
noncomputable def token_IsName (s_0:ByteArray):Option Bool:=
 (token_whole (Token.mk 1 s_0 0)).bind fun x8=>
 some x8.2
noncomputable def types_node_1 (m:NodeType) (c0:NodeType):Option Bool:=
 some (m.Name==c0.Name)
noncomputable def types_attrsF:Nat->Types->Int->Option (List Attr)
 | 0,_,_=>none
 | n+1,t,a=>
  (idx t.Nodes a).bind fun x10=>
  (if (decide (0<=x10.Parent))=true then
  (types_attrsF n t x10.Parent).bind fun x17=>
  some x17
  else
  some []).bind fun w1=>
  (idx t.Nodes a).bind fun x22=>
  (appC w1 x22.Attrs).bind fun x25=>
  some x25
noncomputable def types_attrs (t:Types) (a:Int):Option (List Attr):=lim fun n=>types_attrsF n t a
noncomputable def slices_IndexFunc_Attr (s_0:List Attr) (f:Attr->Option Bool):Option Int:=
 thenR (forR (ρ:=Int) (fun (i0:Int) (_:Unit)=>
 (idx s_0 i0).bind fun x14=>
 (f x14).bind fun x16=>
 if x16=true then
 some (.ret i0)
 else
 some (.next ())) 0 (s_0.length:Int) ()) (fun _=>
 some (-1)) (fun v0=>some v0)
noncomputable def slices_ContainsFunc_Attr (s_0:List Attr) (f:Attr->Option Bool):Option Bool:=
 (slices_IndexFunc_Attr s_0 f).bind fun x7=>
 some (decide (0<=x7))
noncomputable def types_attribute_1 (y:Attr) (c0:Attr):Option Bool:=
 some (y.Name==c0.Name)
noncomputable def types_names (l:List ByteArray):Option Int:=
 if (decide (20<(l.length:Int)))=true then
 some 3
 else
 thenR (forR (ρ:=Int) (fun (i0:Int) (_:Unit)=>
 (idx l i0).bind fun x13=>
 (token_IsName x13).bind fun x17=>
 if (!x17)=true then
 some (.ret 2)
 else
 (slc l 0 i0).bind fun x22=>
 (slices_Contains_string x22 x13).bind fun x24=>
 if x24=true then
 some (.ret 5)
 else
 some (.next ())) 0 (l.length:Int) ()) (fun _=>
 some 0) (fun v0=>some v0)
noncomputable def types_attribute (x_0:Attr) (before:List Attr):Option Int:=
 (token_IsName x_0.Name).bind fun x10=>
 if (!x10)=true then
 some 2
 else
 (slices_ContainsFunc_Attr before (fun y0=>types_attribute_1 y0 x_0)).bind fun x15=>
 if x15=true then
 some 5
 else
 (types_names x_0.Names).bind fun x18=>
 if (!decide (x18=0))=true then
 some x18
 else
 (if (decide (0<(x_0.Names.length:Int)))=true then
 some ((decide (x_0.Low=0))&&(decide (x_0.High=(w64 ((x_0.Names.length:Int) - 1)))))
 else
 some (((decide ((-1000000)<=x_0.Low))&&(decide (x_0.Low<=x_0.High)))&&(decide (x_0.High<=1000000)))).bind fun w1=>
 if (!w1)=true then
 some 6
 else
 some 0
noncomputable def types_node (t:Types) (i_1:Int):Option Int:=
 (idx t.Nodes i_1).bind fun x12=>
 (token_IsName x12.Name).bind fun x17=>
 if (!x17)=true then
 some 2
 else
 (slc t.Nodes 0 i_1).bind fun x23=>
 (slices_ContainsFunc_NodeType x23 (fun y0=>types_node_1 y0 x12)).bind fun x25=>
 if x25=true then
 some 5
 else
 if ((decide (x12.Parent<(-1)))||(decide (i_1<=x12.Parent)))=true then
 some 6
 else
 if (decide (4<(x12.Attrs.length:Int)))=true then
 some 3
 else
 (types_attrs t i_1).bind fun x43=>
 if (decide (8<(x43.length:Int)))=true then
 some 3
 else
 thenR (forR (ρ:=Int) (fun (i1:Int) (_:Unit)=>
 (idx x43 i1).bind fun x61=>
 (slc x43 0 i1).bind fun x65=>
 (types_attribute x61 x65).bind fun x66=>
 if (!decide (x66=0))=true then
 some (.ret x66)
 else
 some (.next ())) (w64 ((x43.length:Int) - (x12.Attrs.length:Int))) (x43.length:Int) ()) (fun _=>
 some 0) (fun v1=>some v1)
noncomputable def types_edge_1 (n:Int) (c0:Types):Option Bool:=
 some ((decide (0<=n))&&(decide (n<(c0.Nodes.length:Int))))
noncomputable def slices_IndexFunc_EdgeType (s_0:List EdgeType) (f:EdgeType->Option Bool):Option Int:=
 thenR (forR (ρ:=Int) (fun (i0:Int) (_:Unit)=>
 (idx s_0 i0).bind fun x14=>
 (f x14).bind fun x16=>
 if x16=true then
 some (.ret i0)
 else
 some (.next ())) 0 (s_0.length:Int) ()) (fun _=>
 some (-1)) (fun v0=>some v0)
noncomputable def slices_ContainsFunc_EdgeType (s_0:List EdgeType) (f:EdgeType->Option Bool):Option Bool:=
 (slices_IndexFunc_EdgeType s_0 f).bind fun x7=>
 some (decide (0<=x7))
noncomputable def types_edge_2 (y:EdgeType) (c0:EdgeType):Option Bool:=
 some (y.Name==c0.Name)
noncomputable def types_bounded (low:Int) (high:Int):Option Bool:=
 some (((decide (0<=low))&&(decide (low<=40)))&&((decide (high=(-1)))||((decide (low<=high))&&(decide (high<=40)))))
noncomputable def types_edge (t:Types) (i_1:Int):Option Int:=
 (idx t.Edges i_1).bind fun x10=>
 (token_IsName x10.Name).bind fun x16=>
 if (!x16)=true then
 some 2
 else
 (slc t.Edges 0 i_1).bind fun x22=>
 (slices_ContainsFunc_EdgeType x22 (fun y0=>types_edge_2 y0 x10)).bind fun x24=>
 if x24=true then
 some 5
 else
 (types_edge_1 x10.From t).bind fun x29=>
 (if (!x29)=true then some true else ((types_edge_1 x10.To t).bind fun x35=>
 some (!x35))).bind fun x37=>
 (if x37=true then
 some x37
 else
 (types_bounded x10.OutLow x10.OutHigh).bind fun x42=>
 (if (!x42)=true then some true else ((types_bounded x10.InLow x10.InHigh).bind fun x49=>
 some (!x49))).bind fun x51=>
 some x51).bind fun w1=>
 if w1=true then
 some 6
 else
 some 0
noncomputable def types_Valid (t:Types):Option (ByteArray × Int):=
 if (decide ((t.Nodes.length:Int)=0))=true then
 some ((⟨#[]⟩:ByteArray),7)
 else
 if ((decide (12<(t.Nodes.length:Int)))||(decide (20<(t.Edges.length:Int))))=true then
 some ((⟨#[]⟩:ByteArray),3)
 else
 thenR (forR (ρ:=(ByteArray × Int)) (fun (i1:Int) (_:Unit)=>
 (idx t.Nodes i1).bind fun x32=>
 (types_node t i1).bind fun x36=>
 if (!decide (x36=0))=true then
 some (.ret (x32.Name,x36))
 else
 some (.next ())) 0 (t.Nodes.length:Int) ()) (fun _=>
 thenR (forR (ρ:=(ByteArray × Int)) (fun (i3:Int) (_:Unit)=>
 (idx t.Edges i3).bind fun x49=>
 (types_edge t i3).bind fun x53=>
 if (!decide (x53=0))=true then
 some (.ret (x49.Name,x53))
 else
 some (.next ())) 0 (t.Edges.length:Int) ()) (fun _=>
 some ((⟨#[]⟩:ByteArray),0)) (fun v3=>some v3)) (fun v1=>some v1)
noncomputable def triple_is (n:Int):Option Bool:=
 some ((decide (1<=n))&&(decide (n<=3)))
noncomputable def triple_edge (t:Types) (s_1:Sorts) (i_2:Int):Option Int:=
 (idx s_1.Edges i_2).bind fun x13=>
 (triple_is x13).bind fun x16=>
 if (!x16)=true then
 some 6
 else
 (idx t.Edges i_2).bind fun x23=>
 (idx s_1.Nodes x23.From).bind fun x26=>
 (idx t.Edges i_2).bind fun x33=>
 (idx s_1.Nodes x33.To).bind fun x36=>
 if ((!decide (x26=x13))||((decide (x36=x13))==(decide (x13=2))))=true then
 some 13
 else
 some 0
noncomputable def triple_sorts (t:Types) (s_1:Sorts):Option Int:=
 (types_Valid t).bind fun x14=>
 if (!decide (x14.2=0))=true then
 some x14.2
 else
 if ((!decide ((s_1.Nodes.length:Int)=(t.Nodes.length:Int)))||(!decide ((s_1.Edges.length:Int)=(t.Edges.length:Int))))=true then
 some 20
 else
 thenR (forR (ρ:=Int) (fun (i0:Int) (_:Unit)=>
 (idx s_1.Nodes i0).bind fun x42=>
 (triple_is x42).bind fun x45=>
 if (!x45)=true then
 some (.ret 6)
 else
 (idx t.Nodes i0).bind fun x50=>
 (if (decide (0<=x50.Parent))=true then ((idx s_1.Nodes x50.Parent).bind fun x59=>
 some (!decide (x59=x42))) else some false).bind fun x63=>
 if x63=true then
 some (.ret 13)
 else
 some (.next ())) 0 (s_1.Nodes.length:Int) ()) (fun _=>
 thenR (forR (ρ:=Int) (fun (i2:Int) (_:Unit)=>
 (triple_edge t s_1 i2).bind fun x74=>
 if (!decide (x74=0))=true then
 some (.ret x74)
 else
 some (.next ())) 0 (s_1.Edges.length:Int) ()) (fun _=>
 some 0) (fun v2=>some v2)) (fun v0=>some v0)
noncomputable def slices_Clone_int (s_0:List Int):Option (List Int):=
 appC [] s_0
noncomputable def triple_swapped (l:List Int):Option (List Int):=
 (slices_Clone_int l).bind fun x7=>
 (forA (fun (i0:Int) (s0:List Int)=>
 (idx s0 i0).bind fun x13=>
 (idx s0 i0).bind fun x19=>
 some (setE s0 i0 (w64 (4 - x13)))) 0 (x7.length:Int) x7).bind fun s0=>
 some s0
noncomputable def triple_Swap (t:Types) (s_1:Sorts):Option (Sorts × Int):=
 (triple_sorts t s_1).bind fun x9=>
 if (!decide (x9=0))=true then
 some (Sorts.mk [] [],x9)
 else
 (triple_swapped s_1.Nodes).bind fun x16=>
 (triple_swapped s_1.Edges).bind fun x19=>
 some (Sorts.mk x16 x19,0)
noncomputable def triplerule_sorts (t:Types) (s_1:Sorts):Option Int:=
 (triple_Swap t s_1).bind fun x10=>
 some x10.2
noncomputable def slices_IndexFunc_int (s_0:List Int) (f:Int->Option Bool):Option Int:=
 thenR (forR (ρ:=Int) (fun (i0:Int) (_:Unit)=>
 (idx s_0 i0).bind fun x14=>
 (f x14).bind fun x16=>
 if x16=true then
 some (.ret i0)
 else
 some (.next ())) 0 (s_0.length:Int) ()) (fun _=>
 some (-1)) (fun v0=>some v0)
noncomputable def slices_ContainsFunc_int (s_0:List Int) (f:Int->Option Bool):Option Bool:=
 (slices_IndexFunc_int s_0 f).bind fun x7=>
 some (decide (0<=x7))
noncomputable def slices_IndexFunc_Edge (s_0:List Edge) (f:Edge->Option Bool):Option Int:=
 thenR (forR (ρ:=Int) (fun (i0:Int) (_:Unit)=>
 (idx s_0 i0).bind fun x14=>
 (f x14).bind fun x16=>
 if x16=true then
 some (.ret i0)
 else
 some (.next ())) 0 (s_0.length:Int) ()) (fun _=>
 some (-1)) (fun v0=>some v0)
noncomputable def slices_ContainsFunc_Edge (s_0:List Edge) (f:Edge->Option Bool):Option Bool:=
 (slices_IndexFunc_Edge s_0 f).bind fun x7=>
 some (decide (0<=x7))
noncomputable def graph_within (n:Int) (most:Int):Option Bool:=
 some ((decide (0<=n))&&(decide (n<=most)))
noncomputable def graph_Valid_1 (t:Int):Option Bool:=
 (graph_within t 99).bind fun x4=>
 some (!x4)
noncomputable def graph_fits (e:Edge) (nodes:Int):Option Bool:=
 (graph_within e.Type' 99).bind fun x7=>
 (if x7=true then ((graph_within e.From (w64 (nodes - 1))).bind fun x13=>
 some (x13)) else some false).bind fun x14=>
 (if x14=true then ((graph_within e.To (w64 (nodes - 1))).bind fun x20=>
 some (x20)) else some false).bind fun x21=>
 some x21
noncomputable def graph_Valid_2 (e:Edge) (c0:Graph):Option Bool:=
 (graph_fits e (c0.Nodes.length:Int)).bind fun x8=>
 some (!x8)
noncomputable def graph_Valid (g:Graph):Option Int:=
 if ((decide (40<(g.Nodes.length:Int)))||(decide (80<(g.Edges.length:Int))))=true then
 some 3
 else
 (slices_ContainsFunc_int g.Nodes graph_Valid_1).bind fun x15=>
 if x15=true then
 some 6
 else
 (slices_ContainsFunc_Edge g.Edges (fun y0=>graph_Valid_2 y0 g)).bind fun x19=>
 if x19=true then
 some 6
 else
 some 0
noncomputable def attribute_Valid_1 (n:Int) (c0:Types):Option Bool:=
 some (decide ((c0.Nodes.length:Int)<=n))
noncomputable def attribute_Valid_2 (x_0:Edge) (c0:Types):Option Bool:=
 some (decide ((c0.Edges.length:Int)<=x_0.Type'))
noncomputable def attribute_within (n:Int) (low:Int) (high:Int):Option Bool:=
 some ((decide (low<=n))&&(decide (n<=high)))
noncomputable def types_given_1 (a:Int) (c0:Types):Option Bool:=
 some ((decide (a<0))||(decide ((c0.Nodes.length:Int)<=a)))
noncomputable def types_given (t:Types) (l:List Int):Option Int:=
 (types_Valid t).bind fun x9=>
 if (!decide (x9.2=0))=true then
 some x9.2
 else
 (slices_ContainsFunc_int l (fun y0=>types_given_1 y0 t)).bind fun x17=>
 if x17=true then
 some 6
 else
 some 0
noncomputable def slices_Clone_string (s_0:List ByteArray):Option (List ByteArray):=
 appC [] s_0
noncomputable def types_Attrs (t:Types) (a:Int):Option (List Attr × Int):=
 (types_given t [a]).bind fun x12=>
 if (!decide (x12=0))=true then
 some ([],x12)
 else
 (types_attrs t a).bind fun x18=>
 (forA (fun (i0:Int) (s0:List Attr)=>
 (idx s0 i0).bind fun x28=>
 (slices_Clone_string x28.Names).bind fun x31=>
 (idx s0 i0).bind fun x32=>
 some (setE s0 i0 (Attr.mk x32.Name x32.Low x32.High x31))) 0 (x18.length:Int) x18).bind fun s0=>
 some (s0,0)
noncomputable def attribute_attr (t:Types) (p:Pattern) (s_2:Slot):Option (Attr × Bool):=
 (attribute_within s_2.Node 0 (w64 ((p.Graph.Nodes.length:Int) - 1))).bind fun x17=>
 if (!x17)=true then
 some (Attr.mk (⟨#[]⟩:ByteArray) 0 0 [],false)
 else
 (idx p.Graph.Nodes s_2.Node).bind fun x27=>
 (types_Attrs t x27).bind fun x29=>
 (attribute_within s_2.Attr 0 (w64 ((x29.1.length:Int) - 1))).bind fun x37=>
 if (!x37)=true then
 some (Attr.mk (⟨#[]⟩:ByteArray) 0 0 [],false)
 else
 (idx x29.1 s_2.Attr).bind fun x43=>
 some (x43,true)
noncomputable def difference_term (n:Int) (t:Term):Option Bool:=
 some ((((decide ((-1)<=t.Var))&&(decide (t.Var<n)))&&(decide ((-1000000)<=t.Add)))&&(decide (t.Add<=1000000)))
noncomputable def difference_one (n:Int) (x_1:Test):Option Int:=
 if ((!decide (x_1.Kind=1))&&(!decide (x_1.Kind=2)))=true then
 some 1
 else
 (difference_term n x_1.Left).bind fun x18=>
 (if (!x18)=true then some true else ((difference_term n x_1.Right).bind fun x24=>
 some (!x24))).bind fun x26=>
 if x26=true then
 some 6
 else
 some 0
noncomputable def difference_Valid (n:Int) (l:List Test):Option Int:=
 if ((decide (n<0))||(decide (12<n)))=true then
 some 6
 else
 if (decide (40<(l.length:Int)))=true then
 some 3
 else
 thenR (forR (ρ:=Int) (fun (i0:Int) (_:Unit)=>
 (idx l i0).bind fun x21=>
 (difference_one n x21).bind fun x25=>
 if (!decide (x25=0))=true then
 some (.ret x25)
 else
 some (.next ())) 0 (l.length:Int) ()) (fun _=>
 some 0) (fun v0=>some v0)
noncomputable def slices_Index_bool (s_0:List Bool) (v_1:Bool):Option Int:=
 thenR (forR (ρ:=Int) (fun (i0:Int) (_:Unit)=>
 (idx s_0 i0).bind fun x14=>
 if (v_1==x14)=true then
 some (.ret i0)
 else
 some (.next ())) 0 (s_0.length:Int) ()) (fun _=>
 some (-1)) (fun v0=>some v0)
noncomputable def slices_Contains_bool (s_0:List Bool) (v_1:Bool):Option Bool:=
 (slices_Index_bool s_0 v_1).bind fun x7=>
 some (decide (0<=x7))
noncomputable def attribute_Valid (t:Types) (p:Pattern):Option Int:=
 (types_Valid t).bind fun x16=>
 if (!decide (x16.2=0))=true then
 some x16.2
 else
 (graph_Valid p.Graph).bind fun x24=>
 if (!decide (x24=0))=true then
 some x24
 else
 (slices_ContainsFunc_int p.Graph.Nodes (fun y0=>attribute_Valid_1 y0 t)).bind fun x32=>
 (if x32=true then some true else ((slices_ContainsFunc_Edge p.Graph.Edges (fun y0=>attribute_Valid_2 y0 t)).bind fun x38=>
 some (x38))).bind fun x39=>
 if x39=true then
 some 13
 else
 (attribute_within p.Vars 0 12).bind fun x42=>
 if (!x42)=true then
 some 6
 else
 if ((decide (10<(p.Slots.length:Int)))||(decide (10<(p.Tests.length:Int))))=true then
 some 3
 else
 (mkz p.Vars false).bind fun x56=>
 thenR (forR (ρ:=Int) (fun (i0:Int) (s0:List Bool)=>
 (idx p.Slots i0).bind fun x62=>
 (attribute_attr t p x62).bind fun x68=>
 (if (!x68.2)=true then some true else ((attribute_within x62.Term.Var (-1) (w64 (p.Vars - 1))).bind fun x80=>
 some (!x80))).bind fun x82=>
 (if x82=true then some true else ((attribute_within x62.Term.Add (-1000000) 1000000).bind fun x87=>
 some (!x87))).bind fun x89=>
 if x89=true then
 some (.ret 6)
 else
 if (decide (0<=x62.Term.Var))=true then
 (idx s0 x62.Term.Var).bind fun x98=>
 some (.next (setE s0 x62.Term.Var true))
 else
 some (.next s0)) 0 (p.Slots.length:Int) x56) (fun s0=>
 (difference_Valid p.Vars p.Tests).bind fun x104=>
 if (!decide (x104=0))=true then
 some x104
 else
 (slices_Contains_bool s0 false).bind fun x109=>
 if x109=true then
 some 9
 else
 some 0) (fun v0=>some v0)
noncomputable def rule_typed_1 (n:Int) (c0:Types):Option Bool:=
 some (decide ((c0.Nodes.length:Int)<=n))
noncomputable def rule_typed_2 (x_0:Edge) (c0:Types):Option Bool:=
 some (decide ((c0.Edges.length:Int)<=x_0.Type'))
noncomputable def rule_typed (t:Types) (g:Graph):Option Bool:=
 (slices_ContainsFunc_int g.Nodes (fun y0=>rule_typed_1 y0 t)).bind fun x8=>
 (if (!x8)=true then ((slices_ContainsFunc_Edge g.Edges (fun y0=>rule_typed_2 y0 t)).bind fun x14=>
 some (!x14)) else some false).bind fun x16=>
 some x16
noncomputable def slices_IndexFunc_Slot (s_0:List Slot) (f:Slot->Option Bool):Option Int:=
 thenR (forR (ρ:=Int) (fun (i0:Int) (_:Unit)=>
 (idx s_0 i0).bind fun x14=>
 (f x14).bind fun x16=>
 if x16=true then
 some (.ret i0)
 else
 some (.next ())) 0 (s_0.length:Int) ()) (fun _=>
 some (-1)) (fun v0=>some v0)
noncomputable def slices_ContainsFunc_Slot (s_0:List Slot) (f:Slot->Option Bool):Option Bool:=
 (slices_IndexFunc_Slot s_0 f).bind fun x7=>
 some (decide (0<=x7))
noncomputable def rule_slot_1 (y:Slot) (c0:Slot):Option Bool:=
 some ((decide (y.Node=c0.Node))&&(decide (y.Attr=c0.Attr)))
noncomputable def rule_slot (t:Types) (r_1:Rule) (i_2:Int):Option Int:=
 (idx r_1.Right.Slots i_2).bind fun x15=>
 if ((decide (x15.Node<0))||(decide ((r_1.Right.Graph.Nodes.length:Int)<=x15.Node)))=true then
 some 6
 else
 (idx r_1.Right.Graph.Nodes x15.Node).bind fun x38=>
 (types_Attrs t x38).bind fun x40=>
 if ((((((decide (x15.Attr<0))||(decide ((x40.1.length:Int)<=x15.Attr)))||(decide (x15.Term.Var<(-1))))||(decide (r_1.Right.Vars<=x15.Term.Var)))||(decide (x15.Term.Add<(-1000000))))||(decide (1000000<x15.Term.Add)))=true then
 some 6
 else
 (slc r_1.Right.Slots 0 i_2).bind fun x82=>
 (slices_ContainsFunc_Slot x82 (fun y0=>rule_slot_1 y0 x15)).bind fun x84=>
 if x84=true then
 some 5
 else
 some 0
noncomputable def rule_right (t:Types) (r_1:Rule):Option Int:=
 (graph_Valid r_1.Right.Graph).bind fun x11=>
 if (!decide (x11=0))=true then
 some x11
 else
 (rule_typed t r_1.Right.Graph).bind fun x20=>
 if (!x20)=true then
 some 13
 else
 if ((!decide (r_1.Right.Vars=r_1.Left.Vars))||(decide (0<(r_1.Right.Tests.length:Int))))=true then
 some 1
 else
 if (decide (10<(r_1.Right.Slots.length:Int)))=true then
 some 3
 else
 thenR (forR (ρ:=Int) (fun (i1:Int) (_:Unit)=>
 (rule_slot t r_1 i1).bind fun x53=>
 if (!decide (x53=0))=true then
 some (.ret x53)
 else
 some (.next ())) 0 (r_1.Right.Slots.length:Int) ()) (fun _=>
 some 0) (fun v1=>some v1)
noncomputable def subgraph_list (l:List Int) (n:Int):Option Int:=
 thenR (forR (ρ:=Int) (fun (i0:Int) (_:Unit)=>
 (idx l i0).bind fun x12=>
 if ((decide (x12<0))||(decide (n<=x12)))=true then
 some (.ret 6)
 else
 (if (decide (0<i0))=true then ((idx l (w64 (i0 - 1))).bind fun x28=>
 some (decide (x12<=x28))) else some false).bind fun x31=>
 if x31=true then
 some (.ret 12)
 else
 some (.next ())) 0 (l.length:Int) ()) (fun _=>
 some 0) (fun v0=>some v0)
noncomputable def slices_BinarySearch_int (l:List Int) (x:Int):Option (Int × Bool):=if l.length<=nmax∧l.Pairwise (·<=·) then some ((l.countP (·<x):Nat),l.contains x) else none
noncomputable def subgraph_has (l:List Int) (n:Int):Option Bool:=
 (slices_BinarySearch_int l n).bind fun x10=>
 some x10.2
noncomputable def subgraph_part (g:Graph) (p:Part):Option Int:=
 (subgraph_list p.Nodes (g.Nodes.length:Int)).bind fun x14=>
 if (!decide (x14=0))=true then
 some x14
 else
 (subgraph_list p.Edges (g.Edges.length:Int)).bind fun x23=>
 if (!decide (x23=0))=true then
 some x23
 else
 thenR (forR (ρ:=Int) (fun (i0:Int) (_:Unit)=>
 (idx p.Edges i0).bind fun x32=>
 (idx g.Edges x32).bind fun x39=>
 (subgraph_has p.Nodes x39.From).bind fun x42=>
 (if (!x42)=true then some true else ((idx g.Edges x32).bind fun x50=>
 (subgraph_has p.Nodes x50.To).bind fun x53=>
 some (!x53))).bind fun x55=>
 if x55=true then
 some (.ret 14)
 else
 some (.next ())) 0 (p.Edges.length:Int) ()) (fun _=>
 some 0) (fun v0=>some v0)
noncomputable def subgraph_Valid (g:Graph) (p:Part):Option Int:=
 (graph_Valid g).bind fun x7=>
 if (!decide (x7=0))=true then
 some x7
 else
 (subgraph_part g p).bind fun x13=>
 some x13
noncomputable def subgraph_Extract (g:Graph) (p:Part):Option (Graph × Morphism × Int):=
 (subgraph_Valid g p).bind fun x16=>
 if (!decide (x16=0))=true then
 some (Graph.mk [] [],Morphism.mk [] [],x16)
 else
 (forA (fun (i0:Int) (s0:Graph)=>
 (idx p.Nodes i0).bind fun x27=>
 (idx g.Nodes x27).bind fun x34=>
 (appC s0.Nodes [x34]).bind fun x37=>
 some (Graph.mk x37 s0.Edges)) 0 (p.Nodes.length:Int) (Graph.mk [] [])).bind fun s0=>
 (forA (fun (i2:Int) (s2:Graph)=>
 (idx p.Edges i2).bind fun x45=>
 (idx g.Edges x45).bind fun x50=>
 (slices_BinarySearch_int p.Nodes x50.From).bind fun x57=>
 (slices_BinarySearch_int p.Nodes x50.To).bind fun x66=>
 (appC s2.Edges [Edge.mk x50.Type' x57.1 x66.1]).bind fun x74=>
 some (Graph.mk s2.Nodes x74)) 0 (p.Edges.length:Int) s0).bind fun s2=>
 (slices_Clone_int p.Nodes).bind fun x80=>
 (slices_Clone_int p.Edges).bind fun x83=>
 some (s2,Morphism.mk x80 x83,0)
noncomputable def morphism_Valid (a:Graph) (b:Graph) (m:Morphism):Option Int:=
 (graph_Valid a).bind fun x16=>
 if (!decide (x16=0))=true then
 some x16
 else
 (graph_Valid b).bind fun x21=>
 if (!decide (x21=0))=true then
 some x21
 else
 if ((!decide ((m.Nodes.length:Int)=(a.Nodes.length:Int)))||(!decide ((m.Edges.length:Int)=(a.Edges.length:Int))))=true then
 some 20
 else
 thenR (forR (ρ:=Int) (fun (i0:Int) (_:Unit)=>
 (idx m.Nodes i0).bind fun x47=>
 if ((decide (x47<0))||(decide ((b.Nodes.length:Int)<=x47)))=true then
 some (.ret 6)
 else
 (idx b.Nodes x47).bind fun x61=>
 (idx a.Nodes i0).bind fun x66=>
 if (!decide (x61=x66))=true then
 some (.ret 13)
 else
 some (.next ())) 0 (m.Nodes.length:Int) ()) (fun _=>
 thenR (forR (ρ:=Int) (fun (i2:Int) (_:Unit)=>
 (idx m.Edges i2).bind fun x76=>
 if ((decide (x76<0))||(decide ((b.Edges.length:Int)<=x76)))=true then
 some (.ret 6)
 else
 (idx a.Edges i2).bind fun x90=>
 (idx b.Edges x76).bind fun x95=>
 if (!decide (x90.Type'=x95.Type'))=true then
 some (.ret 13)
 else
 (idx m.Nodes x90.From).bind fun x106=>
 (if (!decide (x106=x95.From))=true then some true else ((idx m.Nodes x90.To).bind fun x116=>
 some (!decide (x116=x95.To)))).bind fun x121=>
 if x121=true then
 some (.ret 11)
 else
 some (.next ())) 0 (m.Edges.length:Int) ()) (fun _=>
 some 0) (fun v2=>some v2)) (fun v0=>some v0)
noncomputable def slices_Sort_int (l:List Int):Option (List Int):=if l.length<=nmax then some (l.mergeSort fun x y=>decide (x<=y)) else none
noncomputable def slices_Compact_int (l:List Int):Option (List Int):=if l.length<=nmax then some (Go.Lib.compact l) else none
noncomputable def morphism_images (l:List Int):Option Int:=
 (slices_Clone_int l).bind fun x5=>
 (slices_Sort_int x5).bind fun x7=>
 (slices_Compact_int x7).bind fun x9=>
 some (x9.length:Int)
noncomputable def morphism_Injective (a:Graph) (b:Graph) (m:Morphism):Option Bool:=
 (morphism_Valid a b m).bind fun x10=>
 (if (decide (x10=0))=true then ((morphism_images m.Nodes).bind fun x15=>
 some (decide (x15=(m.Nodes.length:Int)))) else some false).bind fun x20=>
 (if x20=true then ((morphism_images m.Edges).bind fun x24=>
 some (decide (x24=(m.Edges.length:Int)))) else some false).bind fun x29=>
 some x29
noncomputable def rule_kept (r_0:Rule):Option Int:=
 (subgraph_Extract r_0.Left.Graph r_0.Keep).bind fun x13=>
 if (!decide (x13.2.2=0))=true then
 some x13.2.2
 else
 (morphism_Valid x13.1 r_0.Right.Graph r_0.Into).bind fun x26=>
 if (!decide (x26=0))=true then
 some x26
 else
 (morphism_Injective x13.1 r_0.Right.Graph r_0.Into).bind fun x36=>
 if (!x36)=true then
 some 11
 else
 some 0
noncomputable def slices_Index_int (s_0:List Int) (v_1:Int):Option Int:=
 thenR (forR (ρ:=Int) (fun (i0:Int) (_:Unit)=>
 (idx s_0 i0).bind fun x14=>
 if (decide (v_1=x14))=true then
 some (.ret i0)
 else
 some (.next ())) 0 (s_0.length:Int) ()) (fun _=>
 some (-1)) (fun v0=>some v0)
noncomputable def slices_Contains_int (s_0:List Int) (v_1:Int):Option Bool:=
 (slices_Index_int s_0 v_1).bind fun x7=>
 some (decide (0<=x7))
noncomputable def rule_others (l:List Int) (n:Int):Option (List Int):=
 (forA (fun (i0:Int) (s0:List Int)=>
 (slices_Contains_int l i0).bind fun x13=>
 if (!x13)=true then
 (appC s0 [i0]).bind fun x18=>
 some x18
 else
 some s0) 0 n []).bind fun s0=>
 some s0
noncomputable def rule_created (r_0:Rule):Option (List Int × List Int):=
 (rule_others r_0.Into.Nodes (r_0.Right.Graph.Nodes.length:Int)).bind fun x12=>
 (rule_others r_0.Into.Edges (r_0.Right.Graph.Edges.length:Int)).bind fun x21=>
 some (x12,x21)
noncomputable def rule_makable_1 (i_0:Int) (c0:Types) (c1:Graph):Option Bool:=
 (idx c1.Nodes i_0).bind fun x10=>
 (idx c0.Nodes x10).bind fun x12=>
 some x12.Abstract
noncomputable def slices_Reverse_int (l:List Int):Option (List Int):=if l.length<=nmax then some l.reverse else none
noncomputable def types_line (t:Types) (a:Int):Option (List Int):=
 thenR (whR (ρ:=(List Int)) (fun (s0:Int × List Int)=>
 if (decide (0<=s0.1))=true then
 (appC s0.2 [s0.1]).bind fun x17=>
 (idx t.Nodes s0.1).bind fun x11=>
 some (.next (x11.Parent,x17))
 else
 some (.brk (s0.1,s0.2))) (a,[])) (fun s0=>
 (slices_Reverse_int s0.2).bind fun x19=>
 some x19) (fun v0=>some v0)
noncomputable def types_is (t:Types) (a:Int) (b:Int):Option Bool:=
 (types_line t a).bind fun x9=>
 (slices_Contains_int x9 b).bind fun x11=>
 some x11
noncomputable def types_Fits (t:Types) (edge:Int) (from':Int) (to':Int):Option Bool:=
 (types_given t [from',to']).bind fun x13=>
 if (((!decide (x13=0))||(decide (edge<0)))||(decide ((t.Edges.length:Int)<=edge)))=true then
 some false
 else
 (idx t.Edges edge).bind fun x31=>
 (types_is t from' x31.From).bind fun x34=>
 (if x34=true then ((idx t.Edges edge).bind fun x41=>
 (types_is t to' x41.To).bind fun x44=>
 some (x44)) else some false).bind fun x45=>
 some x45
noncomputable def rule_makable_2 (i_0:Int) (c0:Graph) (c1:Types):Option Bool:=
 (idx c0.Edges i_0).bind fun x9=>
 (idx c0.Nodes x9.From).bind fun x18=>
 (idx c0.Nodes x9.To).bind fun x24=>
 (types_Fits c1 x9.Type' x18 x24).bind fun x26=>
 some (!x26)
noncomputable def rule_makable (t:Types) (g:Graph) (nodes:List Int) (edges:List Int):Option Bool:=
 (slices_ContainsFunc_int nodes (fun y0=>rule_makable_1 y0 t g)).bind fun x11=>
 (if (!x11)=true then ((slices_ContainsFunc_int edges (fun y0=>rule_makable_2 y0 g t)).bind fun x16=>
 some (!x16)) else some false).bind fun x18=>
 some x18
noncomputable def condition_bare (c:Condition):Option Bool:=
 some ((decide ((w64 ((w64 ((w64 ((w64 ((w64 ((c.Map.Nodes.length:Int)+(c.Map.Edges.length:Int)))+(c.Pattern.Graph.Nodes.length:Int)))+(c.Pattern.Graph.Edges.length:Int)))+(c.Pattern.Slots.length:Int)))+(c.Pattern.Tests.length:Int)))=0))&&(decide (c.Pattern.Vars=0)))
noncomputable def slices_IndexFunc_Condition (s_0:List Condition) (f:Condition->Option Bool):Option Int:=
 thenR (forR (ρ:=Int) (fun (i0:Int) (_:Unit)=>
 (idx s_0 i0).bind fun x14=>
 (f x14).bind fun x16=>
 if x16=true then
 some (.ret i0)
 else
 some (.next ())) 0 (s_0.length:Int) ()) (fun _=>
 some (-1)) (fun v0=>some v0)
noncomputable def slices_ContainsFunc_Condition (s_0:List Condition) (f:Condition->Option Bool):Option Bool:=
 (slices_IndexFunc_Condition s_0 f).bind fun x7=>
 some (decide (0<=x7))
mutual
noncomputable def condition_wellFormedF:Nat->Condition->Option Bool
 | 0,_=>none
 | n+1,c=>
  (if (decide (c.Kind=1))=true then
  (if (decide ((c.Kids.length:Int)=0))=true then ((condition_bare c).bind fun x16=>
  some (x16)) else some false).bind fun x17=>
  some x17
  else
  if (decide (c.Kind=2))=true then
  (if (decide ((c.Kids.length:Int)=1))=true then ((condition_bare c).bind fun x24=>
  some (x24)) else some false).bind fun x25=>
  some x25
  else
  if (decide (c.Kind=3))=true then
  if (decide (c.Kind=3))=true then
  (if (decide (1<=(c.Kids.length:Int)))=true then ((condition_bare c).bind fun x33=>
  some (x33)) else some false).bind fun x34=>
  some x34
  else
  if (decide (c.Kind=5))=true then
  some (decide ((c.Kids.length:Int)=1))
  else
  some false
  else
  if (decide (c.Kind=4))=true then
  (if (decide (1<=(c.Kids.length:Int)))=true then ((condition_bare c).bind fun x33=>
  some (x33)) else some false).bind fun x34=>
  some x34
  else
  if (decide (c.Kind=5))=true then
  some (decide ((c.Kids.length:Int)=1))
  else
  some false).bind fun w1=>
  (if w1=true then ((slices_ContainsFunc_Condition c.Kids (condition_wellFormed_1F n)).bind fun x43=>
  some (!x43)) else some false).bind fun x45=>
  some x45
noncomputable def condition_wellFormed_1F:Nat->Condition->Option Bool
 | 0,_=>none
 | n+1,k=>
  (condition_wellFormedF n k).bind fun x4=>
  some (!x4)
end
noncomputable def condition_wellFormed (c:Condition):Option Bool:=lim fun n=>condition_wellFormedF n c
noncomputable def condition_wellFormed_1 (k:Condition):Option Bool:=lim fun n=>condition_wellFormed_1F n k
noncomputable def condition_measureF:Nat->Condition->Option (Int × Int)
 | 0,_=>none
 | n+1,c=>
  (forA (fun (i0:Int) (s0:Int × Int)=>
  (idx c.Kids i0).bind fun x15=>
  (condition_measureF n x15).bind fun x19=>
  some (w64 (s0.1+x19.1),max s0.2 x19.2)) 0 (c.Kids.length:Int) (1,0)).bind fun s0=>
  (if (decide (c.Kind=5))=true then
  some (w64 (s0.2+1))
  else
  some s0.2).bind fun w1=>
  some (s0.1,w1)
noncomputable def condition_measure (c:Condition):Option (Int × Int):=lim fun n=>condition_measureF n c
noncomputable def condition_shape (c:Condition):Option Int:=
 (condition_wellFormed c).bind fun x6=>
 if (!x6)=true then
 some 1
 else
 (condition_measure c).bind fun x10=>
 if ((decide (12<x10.1))||(decide (3<x10.2)))=true then
 some 3
 else
 some 0
noncomputable def condition_pattern_1 (s_0:Slot) (c0:Int):Option Bool:=
 some (decide (s_0.Term.Var=c0))
noncomputable def condition_pattern (t:Types) (q:Pattern) (outer:Int):Option Int:=
 (attribute_Valid t q).bind fun x11=>
 if (!decide (x11=9))=true then
 some x11
 else
 thenR (whR (ρ:=Int) (fun (s0:Int)=>
 if (decide (s0<q.Vars))=true then
 (slices_ContainsFunc_Slot q.Slots (fun y0=>condition_pattern_1 y0 s0)).bind fun x25=>
 if (!x25)=true then
 some (.ret x11)
 else
 some (.next (w64 (s0+1)))
 else
 some (.brk s0)) outer) (fun s0=>
 some 0) (fun v0=>some v0)
noncomputable def condition_insideF:Nat->Types->Pattern->Condition->Option Int
 | 0,_,_,_=>none
 | n+1,t,p,c=>
  if (decide (c.Kind=5))=true then
  if (decide (c.Pattern.Vars<p.Vars))=true then
  some 20
  else
  (condition_pattern t c.Pattern p.Vars).bind fun x27=>
  if (!decide (x27=0))=true then
  some x27
  else
  (morphism_Valid p.Graph c.Pattern.Graph c.Map).bind fun x37=>
  if (!decide (x37=0))=true then
  some x37
  else
  (morphism_Injective p.Graph c.Pattern.Graph c.Map).bind fun x47=>
  if (!x47)=true then
  some 1
  else
  thenR (forR (ρ:=Int) (fun (i0:Int) (_:Unit)=>
  (idx c.Kids i0).bind fun x55=>
  (condition_insideF n t c.Pattern x55).bind fun x60=>
  if (!decide (x60=0))=true then
  some (.ret x60)
  else
  some (.next ())) 0 (c.Kids.length:Int) ()) (fun _=>
  some 0) (fun v0=>some v0)
  else
  thenR (forR (ρ:=Int) (fun (i0:Int) (_:Unit)=>
  (idx c.Kids i0).bind fun x55=>
  (condition_insideF n t p x55).bind fun x60=>
  if (!decide (x60=0))=true then
  some (.ret x60)
  else
  some (.next ())) 0 (c.Kids.length:Int) ()) (fun _=>
  some 0) (fun v0=>some v0)
noncomputable def condition_inside (t:Types) (p:Pattern) (c:Condition):Option Int:=lim fun n=>condition_insideF n t p c
noncomputable def condition_Valid (t:Types) (p:Pattern) (c:Condition):Option Int:=
 (attribute_Valid t p).bind fun x11=>
 if (!decide (x11=0))=true then
 some x11
 else
 (condition_shape c).bind fun x16=>
 if (!decide (x16=0))=true then
 some x16
 else
 (condition_inside t p c).bind fun x23=>
 some x23
noncomputable def rule_Valid (t:Types) (r_1:Rule):Option Int:=
 (types_Valid t).bind fun x14=>
 if (!decide (x14.2=0))=true then
 some x14.2
 else
 (token_IsName r_1.Name).bind fun x22=>
 if (!x22)=true then
 some 2
 else
 (attribute_Valid t r_1.Left).bind fun x27=>
 if (!decide (x27=0))=true then
 some x27
 else
 (rule_right t r_1).bind fun x33=>
 if (!decide (x33=0))=true then
 some x33
 else
 (rule_kept r_1).bind fun x38=>
 if (!decide (x38=0))=true then
 some x38
 else
 (rule_created r_1).bind fun x44=>
 (rule_makable t r_1.Right.Graph x44.1 x44.2).bind fun x53=>
 if (!x53)=true then
 some 13
 else
 (condition_Valid t r_1.Left r_1.Condition).bind fun x60=>
 some x60
noncomputable def slices_Grow_int (s:List Int) (n:Int):Option (List Int):=if s=[]∧0<=n∧n<=nmax then some [] else none
noncomputable def slices_Concat_int (slices:List (List Int)):Option (List Int):=
 (forA (fun (i0:Int) (s0:Int)=>
 (idx slices i0).bind fun x13=>
 if (decide ((w64 (s0+(x13.length:Int)))<0))=true then
 none
 else
 some (w64 (s0+(x13.length:Int)))) 0 (slices.length:Int) 0).bind fun s0=>
 (slices_Grow_int [] s0).bind fun x24=>
 (forA (fun (i2:Int) (s2:List Int)=>
 (idx slices i2).bind fun x29=>
 (appC s2 x29).bind fun x33=>
 some x33) 0 (slices.length:Int) x24).bind fun s2=>
 some s2
noncomputable def triplerule_Valid_1 (n:NodeType) (c0:Int):Option Bool:=
 some (decide (n.Parent=c0))
noncomputable def triplerule_Valid (t:Types) (s_1:Sorts) (r_2:Rule):Option Int:=
 (triplerule_sorts t s_1).bind fun x16=>
 if (!decide (x16=0))=true then
 some x16
 else
 (rule_Valid t r_2).bind fun x22=>
 if (!decide (x22=0))=true then
 some x22
 else
 if (((((!((decide ((w64 ((w64 ((w64 ((r_2.Left.Slots.length:Int)+(r_2.Left.Tests.length:Int)))+(r_2.Right.Slots.length:Int)))+(r_2.Right.Tests.length:Int)))=0))&&(decide (r_2.Left.Vars=0))))||(!r_2.Injective))||(!decide (r_2.Condition.Kind=1)))||(decide ((r_2.Keep.Nodes.length:Int)<(r_2.Left.Graph.Nodes.length:Int))))||(decide ((r_2.Keep.Edges.length:Int)<(r_2.Left.Graph.Edges.length:Int))))=true then
 some 8
 else
 (slices_Concat_int [r_2.Left.Graph.Nodes,r_2.Right.Graph.Nodes]).bind fun x98=>
 thenR (forR (ρ:=Int) (fun (i0:Int) (_:Unit)=>
 (idx x98 i0).bind fun x102=>
 (slices_ContainsFunc_NodeType t.Nodes (fun y0=>triplerule_Valid_1 y0 x102)).bind fun x107=>
 if x107=true then
 some (.ret 13)
 else
 some (.next ())) 0 (x98.length:Int) ()) (fun _=>
 thenR (forR (ρ:=Int) (fun (i2:Int) (_:Unit)=>
 (idx r_2.Left.Graph.Edges i2).bind fun x116=>
 (idx r_2.Left.Graph.Nodes x116.From).bind fun x127=>
 (idx r_2.Left.Graph.Nodes x116.To).bind fun x135=>
 (types_Fits t x116.Type' x127 x135).bind fun x137=>
 if (!x137)=true then
 some (.ret 13)
 else
 some (.next ())) 0 (r_2.Left.Graph.Edges.length:Int) ()) (fun _=>
 some 0) (fun v2=>some v2)) (fun v0=>some v0)
noncomputable def triplerule_choose (g:Graph) (node:Int->Option Bool) (edge:Int->Option Bool):Option triplerule_chosen:=
 (forA (fun (i0:Int) (s0:triplerule_chosen)=>
 (idx g.Nodes i0).bind fun x18=>
 (node i0).bind fun x22=>
 if x22=true then
 (appC s0.nodes [i0]).bind fun x27=>
 (appC s0.graph.Nodes [x18]).bind fun x34=>
 some (triplerule_chosen.mk (Graph.mk x34 s0.graph.Edges) x27 s0.edges)
 else
 some s0) 0 (g.Nodes.length:Int) (triplerule_chosen.mk (Graph.mk [] []) [] [])).bind fun s0=>
 (forA (fun (i2:Int) (s2:triplerule_chosen)=>
 (idx g.Edges i2).bind fun x44=>
 (edge i2).bind fun x48=>
 if x48=true then
 (appC s2.edges [i2]).bind fun x53=>
 (slices_Index_int s2.nodes x44.From).bind fun x64=>
 (slices_Index_int s2.nodes x44.To).bind fun x69=>
 (appC s2.graph.Edges [Edge.mk x44.Type' x64 x69]).bind fun x72=>
 some (triplerule_chosen.mk (Graph.mk s2.graph.Nodes x72) s2.nodes x53)
 else
 some s2) 0 (g.Edges.length:Int) s0).bind fun s2=>
 some s2
noncomputable def triplerule_side_1_1 (i_0:Int) (c0:Sorts) (c1:Graph) (c2:Int):Option Bool:=
 (idx c1.Nodes i_0).bind fun x11=>
 (idx c0.Nodes x11).bind fun x13=>
 some (decide (x13=c2))
noncomputable def triplerule_side_1_2 (i_0:Int) (c0:Sorts) (c1:Graph) (c2:Int):Option Bool:=
 (idx c1.Edges i_0).bind fun x11=>
 (idx c0.Edges x11.Type').bind fun x14=>
 some (decide (x14=c2))
noncomputable def triplerule_side_1 (g:Graph) (c0:Sorts) (c1:Int):Option triplerule_chosen:=
 (triplerule_choose g (fun y0=>triplerule_side_1_1 y0 c0 g c1) (fun y0=>triplerule_side_1_2 y0 c0 g c1)).bind fun x8=>
 some x8
noncomputable def triplerule_whole (g:Graph):Option Part:=
 (forA (fun (i0:Int) (s0:Part)=>
 (appC s0.Nodes [i0]).bind fun x16=>
 some (Part.mk x16 s0.Edges)) 0 (g.Nodes.length:Int) (Part.mk [] [])).bind fun s0=>
 (forA (fun (i2:Int) (s2:Part)=>
 (appC s2.Edges [i2]).bind fun x29=>
 some (Part.mk s2.Nodes x29)) 0 (g.Edges.length:Int) s0).bind fun s2=>
 some s2
noncomputable def triplerule_made (r_0:Rule) (left:Graph) (right:Graph) (into:Morphism):Option Rule:=
 (triplerule_whole left).bind fun x16=>
 some (Rule.mk r_0.Name (Pattern.mk left [] 0 []) (Pattern.mk right [] 0 []) x16 into true (Condition.mk 1 [] (Morphism.mk [] []) (Pattern.mk (Graph.mk [] []) [] 0 [])))
noncomputable def triplerule_side (t:Types) (s_1:Sorts) (r_2:Rule) (sort:Int):Option (Rule × Int):=
 (triplerule_Valid t s_1 r_2).bind fun x22=>
 if (!decide (x22=0))=true then
 some (Rule.mk (⟨#[]⟩:ByteArray) (Pattern.mk (Graph.mk [] []) [] 0 []) (Pattern.mk (Graph.mk [] []) [] 0 []) (Part.mk [] []) (Morphism.mk [] []) false (Condition.mk 0 [] (Morphism.mk [] []) (Pattern.mk (Graph.mk [] []) [] 0 [])),x22)
 else
 (triplerule_side_1 r_2.Left.Graph s_1 sort).bind fun x32=>
 (triplerule_side_1 r_2.Right.Graph s_1 sort).bind fun x37=>
 (forA (fun (i0:Int) (s0:Morphism)=>
 (idx x32.nodes i0).bind fun x43=>
 (idx r_2.Into.Nodes x43).bind fun x53=>
 (slices_Index_int x37.nodes x53).bind fun x55=>
 (appC s0.Nodes [x55]).bind fun x57=>
 some (Morphism.mk x57 s0.Edges)) 0 (x32.nodes.length:Int) (Morphism.mk [] [])).bind fun s0=>
 (forA (fun (i2:Int) (s2:Morphism)=>
 (idx x32.edges i2).bind fun x65=>
 (idx r_2.Into.Edges x65).bind fun x75=>
 (slices_Index_int x37.edges x75).bind fun x77=>
 (appC s2.Edges [x77]).bind fun x79=>
 some (Morphism.mk s2.Nodes x79)) 0 (x32.edges.length:Int) s0).bind fun s2=>
 (triplerule_made r_2 x32.graph x37.graph s2).bind fun x88=>
 some (x88,0)
noncomputable def triplerule_Source (t:Types) (s_1:Sorts) (r_2:Rule):Option (Rule × Int):=
 (triplerule_side t s_1 r_2 1).bind fun x11=>
 some (x11.1,x11.2)
noncomputable def slices_Clone_Edge (s_0:List Edge):Option (List Edge):=
 appC [] s_0
noncomputable def triplerule_translating (t:Types) (s_1:Sorts) (r_2:Rule) (sorts:List Int):Option (Rule × Part × Int):=
 (triplerule_Valid t s_1 r_2).bind fun x24=>
 if (!decide (x24=0))=true then
 some (Rule.mk (⟨#[]⟩:ByteArray) (Pattern.mk (Graph.mk [] []) [] 0 []) (Pattern.mk (Graph.mk [] []) [] 0 []) (Part.mk [] []) (Morphism.mk [] []) false (Condition.mk 0 [] (Morphism.mk [] []) (Pattern.mk (Graph.mk [] []) [] 0 [])),Part.mk [] [],x24)
 else
 (slices_Clone_int r_2.Left.Graph.Nodes).bind fun x38=>
 (slices_Clone_Edge r_2.Left.Graph.Edges).bind fun x41=>
 (slices_Clone_int r_2.Into.Nodes).bind fun x46=>
 (slices_Clone_int r_2.Into.Edges).bind fun x50=>
 (forA (fun (i0:Int) (s0:Graph × Morphism × Part)=>
 (idx r_2.Right.Graph.Nodes i0).bind fun x58=>
 (slices_Contains_int r_2.Into.Nodes i0).bind fun x64=>
 (if (!x64)=true then ((idx s_1.Nodes x58).bind fun x71=>
 (slices_Contains_int sorts x71).bind fun x73=>
 some (x73)) else some false).bind fun x74=>
 if x74=true then
 (appC s0.2.2.Nodes [(s0.1.Nodes.length:Int)]).bind fun x81=>
 (appC s0.1.Nodes [x58]).bind fun x87=>
 (appC s0.2.1.Nodes [i0]).bind fun x92=>
 some (Graph.mk x87 s0.1.Edges,Morphism.mk x92 s0.2.1.Edges,Part.mk x81 s0.2.2.Edges)
 else
 some (s0.1,s0.2.1,s0.2.2)) 0 (r_2.Right.Graph.Nodes.length:Int) (Graph.mk x38 x41,Morphism.mk x46 x50,Part.mk [] [])).bind fun s0=>
 (forA (fun (i2:Int) (s2:Graph × Morphism × Part)=>
 (idx r_2.Right.Graph.Edges i2).bind fun x102=>
 (slices_Contains_int r_2.Into.Edges i2).bind fun x108=>
 (if (!x108)=true then ((idx s_1.Edges x102.Type').bind fun x116=>
 (slices_Contains_int sorts x116).bind fun x118=>
 some (x118)) else some false).bind fun x119=>
 if x119=true then
 (appC s2.2.2.Edges [(s2.1.Edges.length:Int)]).bind fun x126=>
 (slices_Index_int s2.2.1.Nodes x102.From).bind fun x136=>
 (slices_Index_int s2.2.1.Nodes x102.To).bind fun x141=>
 (appC s2.1.Edges [Edge.mk x102.Type' x136 x141]).bind fun x144=>
 (appC s2.2.1.Edges [i2]).bind fun x149=>
 some (Graph.mk s2.1.Nodes x144,Morphism.mk s2.2.1.Nodes x149,Part.mk s2.2.2.Nodes x126)
 else
 some (s2.1,s2.2.1,s2.2.2)) 0 (r_2.Right.Graph.Edges.length:Int) (s0.1,s0.2.1,s0.2.2)).bind fun s2=>
 (slices_Clone_int r_2.Right.Graph.Nodes).bind fun x157=>
 (slices_Clone_Edge r_2.Right.Graph.Edges).bind fun x160=>
 (triplerule_made r_2 s2.1 (Graph.mk x157 x160) s2.2.1).bind fun x163=>
 some (x163,s2.2.2,0)
noncomputable def triplerule_Forward (t:Types) (s_1:Sorts) (r_2:Rule):Option (Rule × Part × Int):=
 (triplerule_translating t s_1 r_2 [1]).bind fun x13=>
 some (x13.1,x13.2.1,x13.2.2)
noncomputable def ref52_edge (name:ByteArray) (from':Int) (to':Int):Option EdgeType:=
 some (EdgeType.mk name from' to' 0 (-1) 0 (-1))
noncomputable def ref52_Example :Option (Types × Sorts):=
 (ref52_edge (⟨#[104,97,115]⟩:ByteArray) 0 1).bind fun x9=>
 (ref52_edge (⟨#[119,105,116,104]⟩:ByteArray) 2 3).bind fun x10=>
 (ref52_edge (⟨#[111,102,67,108,97,115,115]⟩:ByteArray) 4 0).bind fun x11=>
 (ref52_edge (⟨#[111,102,65,116,116,114,105,98,117,116,101]⟩:ByteArray) 4 1).bind fun x12=>
 (ref52_edge (⟨#[116,111,84,97,98,108,101]⟩:ByteArray) 4 2).bind fun x13=>
 (ref52_edge (⟨#[116,111,67,111,108,117,109,110]⟩:ByteArray) 4 3).bind fun x14=>
 some (Types.mk [NodeType.mk (⟨#[67,108,97,115,115]⟩:ByteArray) (-1) false [],NodeType.mk (⟨#[65,116,116,114,105,98,117,116,101]⟩:ByteArray) (-1) false [],NodeType.mk (⟨#[84,97,98,108,101]⟩:ByteArray) (-1) false [],NodeType.mk (⟨#[67,111,108,117,109,110]⟩:ByteArray) (-1) false [],NodeType.mk (⟨#[77,97,112]⟩:ByteArray) (-1) false []] [x9,x10,x11,x12,x13,x14],Sorts.mk [1,1,3,3,2] [1,3,2,2,2,2])
noncomputable def slices_Equal_int (s1_0:List Int) (s2_1:List Int):Option Bool:=
 if (!decide ((s1_0.length:Int)=(s2_1.length:Int)))=true then
 some false
 else
 thenR (forR (ρ:=Bool) (fun (i0:Int) (_:Unit)=>
 (idx s1_0 i0).bind fun x18=>
 (idx s2_1 i0).bind fun x22=>
 if (!decide (x18=x22))=true then
 some (.ret false)
 else
 some (.next ())) 0 (s1_0.length:Int) ()) (fun _=>
 some true) (fun v0=>some v0)
noncomputable def law53_classes :Option Rule:=
 some (Rule.mk (⟨#[99,108,97,115,115,101,115]⟩:ByteArray) (Pattern.mk (Graph.mk [] []) [] 0 []) (Pattern.mk (Graph.mk [0,2,4] [Edge.mk 2 2 0,Edge.mk 4 2 1]) [] 0 []) (Part.mk [] []) (Morphism.mk [] []) true (Condition.mk 1 [] (Morphism.mk [] []) (Pattern.mk (Graph.mk [] []) [] 0 [])))
noncomputable def law53_awake :Option Bool:=
 (ref52_Example).bind fun x9=>
 (law53_classes).bind fun x15=>
 (triplerule_Source x9.1 x9.2 x15).bind fun x16=>
 (law53_classes).bind fun x22=>
 (triplerule_Forward x9.1 x9.2 x22).bind fun x23=>
 (if (decide (x16.2=0))=true then ((slices_Equal_int x16.1.Right.Graph.Nodes [0]).bind fun x35=>
 some (x35)) else some false).bind fun x36=>
 (if (x36&&(decide (x23.2.2=0)))=true then ((slices_Equal_int x23.1.Left.Graph.Nodes [0]).bind fun x47=>
 some (x47)) else some false).bind fun x48=>
 (if x48=true then ((slices_Equal_int x23.2.1.Nodes [0]).bind fun x53=>
 some (x53)) else some false).bind fun x54=>
 some (x54&&(decide ((x23.1.Right.Graph.Nodes.length:Int)=3)))
noncomputable def triplerule_Consistency (t:Types) (s_1:Sorts) (r_2:Rule):Option (Rule × Part × Int):=
 (triplerule_translating t s_1 r_2 [1,3]).bind fun x13=>
 some (x13.1,x13.2.1,x13.2.2)
noncomputable def law53_small (d:ref53_Draft):Option Bool:=
 some ((((decide ((d.Left.Nodes.length:Int)<=3))&&(decide ((d.Left.Edges.length:Int)<=3)))&&(decide ((d.Nodes.length:Int)<=3)))&&(decide ((d.Edges.length:Int)<=4)))
noncomputable def ref01_text (t:Token):Option ByteArray:=
 if (decide (t.Kind=3))=true then
 (sapp (⟨#[34]⟩:ByteArray) t.Text).bind fun x8=>
 (sapp x8 (⟨#[34]⟩:ByteArray)).bind fun x9=>
 some x9
 else
 some t.Text
noncomputable def ref01_letter (c:Int):Option Bool:=
 some (((decide (97<=c))&&(decide (c<=122)))||((decide (65<=c))&&(decide (c<=90))))
noncomputable def ref01_digit (c:Int):Option Bool:=
 some ((decide (48<=c))&&(decide (c<=57)))
noncomputable def ref01_run (s_0:ByteArray) (at':Int) (digits:Bool):Option Int:=
 thenR (whR (ρ:=Int) (fun (s0:Int)=>
 (if (decide ((w64 (at'+s0))<(s_0.size:Int)))=true then ((sidx s_0 (w64 (at'+s0))).bind fun x19=>
 (ref01_digit x19).bind fun x20=>
 (if x20=true then some true else ((if (!digits)=true then ((sidx s_0 (w64 (at'+s0))).bind fun x29=>
 (ref01_letter x29).bind fun x30=>
 (if x30=true then some true else ((sidx s_0 (w64 (at'+s0))).bind fun x36=>
 some (decide (x36=95)))).bind fun x38=>
 some (x38)) else some false).bind fun x39=>
 some (x39))).bind fun x40=>
 some (x40)) else some false).bind fun x41=>
 if x41=true then
 some (.next (w64 (s0+1)))
 else
 some (.brk s0)) 0) (fun s0=>
 some s0) (fun v0=>some v0)
noncomputable def ref01_quoted (s_0:ByteArray) (at':Int):Option Int:=
 thenR (whR (ρ:=Int) (fun (s0:Int)=>
 if (decide ((w64 (at'+s0))<(s_0.size:Int)))=true then
 (sidx s_0 (w64 (at'+s0))).bind fun x19=>
 if (decide (x19=34))=true then
 some (.ret (w64 (s0+1)))
 else
 if ((decide (x19<32))||(decide (126<x19)))=true then
 some (.ret 0)
 else
 some (.next (w64 (s0+1)))
 else
 some (.brk s0)) 1) (fun s0=>
 some 0) (fun v0=>some v0)
noncomputable def ref01_signs :Option (List ByteArray):=
 some [(⟨#[45,62]⟩:ByteArray),(⟨#[60,61]⟩:ByteArray),(⟨#[62,61]⟩:ByteArray),(⟨#[61,61]⟩:ByteArray),(⟨#[33,61]⟩:ByteArray),(⟨#[123]⟩:ByteArray),(⟨#[125]⟩:ByteArray),(⟨#[40]⟩:ByteArray),(⟨#[41]⟩:ByteArray),(⟨#[91]⟩:ByteArray),(⟨#[93]⟩:ByteArray),(⟨#[44]⟩:ByteArray),(⟨#[59]⟩:ByteArray),(⟨#[58]⟩:ByteArray),(⟨#[61]⟩:ByteArray),(⟨#[43]⟩:ByteArray),(⟨#[45]⟩:ByteArray),(⟨#[42]⟩:ByteArray),(⟨#[60]⟩:ByteArray),(⟨#[62]⟩:ByteArray),(⟨#[33]⟩:ByteArray),(⟨#[38]⟩:ByteArray),(⟨#[124]⟩:ByteArray),(⟨#[46]⟩:ByteArray),(⟨#[63]⟩:ByteArray)]
noncomputable def ref01_one (s_0:ByteArray) (at':Int):Option (Token × Int × Int):=
 (sidx s_0 at').bind fun x16=>
 (ref01_letter x16).bind fun x18=>
 (if x18=true then some true else ((ref01_digit x16).bind fun x21=>
 some (x21))).bind fun x22=>
 if x22=true then
 (ref01_digit x16).bind fun x26=>
 (ref01_run s_0 at' x26).bind fun x27=>
 (ref01_digit x16).bind fun x29=>
 (if x29=true then
 some (2,9)
 else
 some (1,20)).bind fun w1=>
 if (decide (w1.2<x27))=true then
 some (Token.mk 0 (⟨#[]⟩:ByteArray) 0,0,3)
 else
 (sslc s_0 at' (w64 (at'+x27))).bind fun x40=>
 some (Token.mk w1.1 x40 0,x27,0)
 else
 if (decide (x16=34))=true then
 (ref01_quoted s_0 at').bind fun x47=>
 if (decide (x47=0))=true then
 some (Token.mk 0 (⟨#[]⟩:ByteArray) 0,0,2)
 else
 if (decide (60<(w64 (x47 - 2))))=true then
 some (Token.mk 0 (⟨#[]⟩:ByteArray) 0,0,3)
 else
 (sslc s_0 (w64 (at'+1)) (w64 ((w64 (at'+x47)) - 1))).bind fun x62=>
 some (Token.mk 3 x62 0,x47,0)
 else
 (ref01_signs).bind fun x65=>
 thenR (forR (ρ:=(Token × Int × Int)) (fun (i0:Int) (s0:Token)=>
 (idx x65 i0).bind fun x75=>
 (if (decide ((w64 (at'+(x75.size:Int)))<=(s_0.size:Int)))=true then ((idx x65 i0).bind fun x88=>
 (sslc s_0 at' (w64 (at'+(x88.size:Int)))).bind fun x92=>
 (idx x65 i0).bind fun x95=>
 some (x92==x95)) else some false).bind fun x98=>
 if x98=true then
 (idx x65 i0).bind fun x101=>
 (idx x65 i0).bind fun x106=>
 some (.ret (Token.mk 4 x101 0,(x106.size:Int),0))
 else
 some (.next s0)) 0 (x65.length:Int) (Token.mk 0 (⟨#[]⟩:ByteArray) 0)) (fun s0=>
 some (Token.mk 0 (⟨#[]⟩:ByteArray) 0,0,2)) (fun v0=>some v0)
noncomputable def ref01_Right (t:Token):Option Bool:=
 (ref01_text t).bind fun x8=>
 if (x8==(⟨#[]⟩:ByteArray))=true then
 some false
 else
 (ref01_one x8 0).bind fun x13=>
 some (((decide (x13.2.2=0))&&(decide (x13.2.1=(x8.size:Int))))&&(decide (x13.1.Kind=t.Kind)))
noncomputable def ref01_IsName (s_0:ByteArray):Option Bool:=
 (ref01_Right (Token.mk 1 s_0 0)).bind fun x5=>
 some x5
noncomputable def ref04_in (n:Int) (low:Int) (high:Int):Option Bool:=
 some ((decide (low<=n))&&(decide (n<=high)))
noncomputable def ref04_attrsF:Nat->Types->Int->Option (List Attr)
 | 0,_,_=>none
 | n+1,t,a=>
  if (decide (a<0))=true then
  some []
  else
  (idx t.Nodes a).bind fun x12=>
  (ref04_attrsF n t x12.Parent).bind fun x15=>
  (appC [] x15).bind fun x16=>
  (idx t.Nodes a).bind fun x20=>
  (appC x16 x20.Attrs).bind fun x23=>
  some x23
noncomputable def ref04_attrs (t:Types) (a:Int):Option (List Attr):=lim fun n=>ref04_attrsF n t a
noncomputable def ref04_names (l:List ByteArray):Option Int:=
 if (decide (20<(l.length:Int)))=true then
 some 3
 else
 thenR (forR (ρ:=Int) (fun (i0:Int) (_:Unit)=>
 (idx l i0).bind fun x16=>
 (ref01_IsName x16).bind fun x18=>
 if (!x18)=true then
 some (.ret 2)
 else
 thenR (forR (ρ:=Int) (fun (i2:Int) (_:Unit)=>
 (idx l i2).bind fun x27=>
 (idx l i0).bind fun x31=>
 if (x27==x31)=true then
 some (.ret 5)
 else
 some (.next ())) 0 i0 ()) (fun _=>
 some (.next ())) (fun v2=>some (.ret v2))) 0 (l.length:Int) ()) (fun _=>
 some 0) (fun v0=>some v0)
noncomputable def ref04_attribute (a:Attr):Option Int:=
 if (decide ((a.Names.length:Int)=0))=true then
 (ref04_in a.Low (-1000000) 1000000).bind fun x10=>
 (if (!x10)=true then some true else ((ref04_in a.High a.Low 1000000).bind fun x17=>
 some (!x17))).bind fun x19=>
 if x19=true then
 some 6
 else
 some 0
 else
 (ref04_names a.Names).bind fun x22=>
 if (!decide (x22=0))=true then
 some x22
 else
 if ((!decide (a.Low=0))||(!decide (a.High=(w64 ((a.Names.length:Int) - 1)))))=true then
 some 6
 else
 some 0
noncomputable def ref04_node (t:Types) (i_1:Int):Option Int:=
 (idx t.Nodes i_1).bind fun x14=>
 (ref01_IsName x14.Name).bind fun x18=>
 if (!x18)=true then
 some 2
 else
 thenR (forR (ρ:=Int) (fun (i0:Int) (_:Unit)=>
 (idx t.Nodes i0).bind fun x28=>
 if (x28.Name==x14.Name)=true then
 some (.ret 5)
 else
 some (.next ())) 0 i_1 ()) (fun _=>
 (ref04_in x14.Parent (-1) (w64 (i_1 - 1))).bind fun x38=>
 if (!x38)=true then
 some 6
 else
 (ref04_attrs t i_1).bind fun x42=>
 if ((decide (4<(x14.Attrs.length:Int)))||(decide (8<(x42.length:Int))))=true then
 some 3
 else
 thenR (forR (ρ:=Int) (fun (i2:Int) (_:Unit)=>
 (idx x42 i2).bind fun x66=>
 (ref01_IsName x66.Name).bind fun x69=>
 if (!x69)=true then
 some (.ret 2)
 else
 thenR (forR (ρ:=Int) (fun (i4:Int) (_:Unit)=>
 (idx x42 i4).bind fun x78=>
 (idx x42 i2).bind fun x83=>
 if (x78.Name==x83.Name)=true then
 some (.ret 5)
 else
 some (.next ())) 0 i2 ()) (fun _=>
 (idx x42 i2).bind fun x89=>
 (ref04_attribute x89).bind fun x91=>
 if (!decide (x91=0))=true then
 some (.ret x91)
 else
 some (.next ())) (fun v4=>some (.ret v4))) (w64 ((x42.length:Int) - (x14.Attrs.length:Int))) (x42.length:Int) ()) (fun _=>
 some 0) (fun v2=>some v2)) (fun v0=>some v0)
noncomputable def ref04_bound (low:Int) (high:Int):Option Bool:=
 (ref04_in low 0 40).bind fun x6=>
 (if x6=true then ((if (decide (high=(-1)))=true then some true else ((ref04_in high low 40).bind fun x13=>
 some (x13))).bind fun x14=>
 some (x14)) else some false).bind fun x15=>
 some x15
noncomputable def ref04_edge (t:Types) (i_1:Int):Option Int:=
 (idx t.Edges i_1).bind fun x11=>
 (ref01_IsName x11.Name).bind fun x15=>
 if (!x15)=true then
 some 2
 else
 thenR (forR (ρ:=Int) (fun (i0:Int) (_:Unit)=>
 (idx t.Edges i0).bind fun x25=>
 if (x25.Name==x11.Name)=true then
 some (.ret 5)
 else
 some (.next ())) 0 i_1 ()) (fun _=>
 (ref04_in x11.From 0 (w64 ((t.Nodes.length:Int) - 1))).bind fun x38=>
 (if (!x38)=true then some true else ((ref04_in x11.To 0 (w64 ((t.Nodes.length:Int) - 1))).bind fun x44=>
 some (!x44))).bind fun x46=>
 (if x46=true then some true else ((ref04_bound x11.OutLow x11.OutHigh).bind fun x52=>
 some (!x52))).bind fun x54=>
 (if x54=true then some true else ((ref04_bound x11.InLow x11.InHigh).bind fun x60=>
 some (!x60))).bind fun x62=>
 if x62=true then
 some 6
 else
 some 0) (fun v0=>some v0)
noncomputable def ref04_Valid (t:Types):Option (ByteArray × Int):=
 if (decide ((t.Nodes.length:Int)=0))=true then
 some ((⟨#[]⟩:ByteArray),7)
 else
 if ((decide (12<(t.Nodes.length:Int)))||(decide (20<(t.Edges.length:Int))))=true then
 some ((⟨#[]⟩:ByteArray),3)
 else
 thenR (forR (ρ:=(ByteArray × Int)) (fun (i0:Int) (_:Unit)=>
 (ref04_node t i0).bind fun x31=>
 if (!decide (x31=0))=true then
 (idx t.Nodes i0).bind fun x37=>
 some (.ret (x37.Name,x31))
 else
 some (.next ())) 0 (t.Nodes.length:Int) ()) (fun _=>
 thenR (forR (ρ:=(ByteArray × Int)) (fun (i2:Int) (_:Unit)=>
 (ref04_edge t i2).bind fun x50=>
 if (!decide (x50=0))=true then
 (idx t.Edges i2).bind fun x56=>
 some (.ret (x56.Name,x50))
 else
 some (.next ())) 0 (t.Edges.length:Int) ()) (fun _=>
 some ((⟨#[]⟩:ByteArray),0)) (fun v2=>some v2)) (fun v0=>some v0)
noncomputable def ref04_given (t:Types) (a:Int) (b:Int):Option Int:=
 (ref04_Valid t).bind fun x11=>
 if (!decide (x11.2=0))=true then
 some x11.2
 else
 (ref04_in a 0 (w64 ((t.Nodes.length:Int) - 1))).bind fun x22=>
 (if (!x22)=true then some true else ((ref04_in b 0 (w64 ((t.Nodes.length:Int) - 1))).bind fun x30=>
 some (!x30))).bind fun x32=>
 if x32=true then
 some 6
 else
 some 0
noncomputable def ref04_Below1F:Nat->Types->Int->Int->Option Bool
 | 0,_,_,_=>none
 | n+1,t,a,b=>
  (if (decide (a=b))=true then some true else ((if (decide (0<=a))=true then ((idx t.Nodes a).bind fun x18=>
  (ref04_Below1F n t x18.Parent b).bind fun x22=>
  some (x22)) else some false).bind fun x23=>
  some (x23))).bind fun x24=>
  some x24
noncomputable def ref04_Below1 (t:Types) (a:Int) (b:Int):Option Bool:=lim fun n=>ref04_Below1F n t a b
noncomputable def ref04_Fits (t:Types) (edge:Int) (from':Int) (to':Int):Option Bool:=
 (ref04_given t from' to').bind fun x12=>
 (if (!decide (x12=0))=true then some true else ((ref04_in edge 0 (w64 ((t.Edges.length:Int) - 1))).bind fun x20=>
 some (!x20))).bind fun x22=>
 if x22=true then
 some false
 else
 (idx t.Edges edge).bind fun x28=>
 (ref04_Below1 t from' x28.From).bind fun x31=>
 (if x31=true then ((idx t.Edges edge).bind fun x38=>
 (ref04_Below1 t to' x38.To).bind fun x41=>
 some (x41)) else some false).bind fun x42=>
 some x42
noncomputable def ref15_concrete (t:Types):Option (List Int):=
 (forA (fun (i0:Int) (s0:List Int)=>
 (idx t.Nodes i0).bind fun x15=>
 if (!x15.Abstract)=true then
 (appC s0 [i0]).bind fun x22=>
 some x22
 else
 some s0) 0 (t.Nodes.length:Int) []).bind fun s0=>
 some s0
noncomputable def ref04_Attrs (t:Types) (a:Int):Option (List Attr × Int):=
 (ref04_given t a a).bind fun x14=>
 if (!decide (x14=0))=true then
 some ([],x14)
 else
 (ref04_attrs t a).bind fun x20=>
 (forA (fun (i0:Int) (s0:List Attr)=>
 (idx x20 i0).bind fun x29=>
 (appC [] x29.Names).bind fun x34=>
 (appC s0 [Attr.mk x29.Name x29.Low x29.High x34]).bind fun x39=>
 some x39) 0 (x20.length:Int) []).bind fun s0=>
 some (s0,0)
noncomputable def ref15_Made (t:Types) (d:ref15_Draft):Option Host:=
 (ref15_concrete t).bind fun x17=>
 thenR (whR (ρ:=Host) (fun (s0:Host × Int)=>
 if (((decide (s0.2<(d.Nodes.length:Int)))&&(decide (s0.2<8)))&&(decide (0<(x17.length:Int))))=true then
 (idx d.Nodes s0.2).bind fun x38=>
 (rmd (w64 x38.a0) (x17.length:Int)).bind fun x44=>
 (idx x17 x44).bind fun x45=>
 (ref04_Attrs t x45).bind fun x50=>
 (forA (fun (i2:Int) (s2:List Int)=>
 (idx x50.1 i2).bind fun x63=>
 (idx d.Nodes s0.2).bind fun x69=>
 (idx x50.1 i2).bind fun x78=>
 (idx x50.1 i2).bind fun x83=>
 (rmd (w64 ((w64 x69.a1)+(w64 (7*i2)))) (w64 ((w64 (x78.High - x83.Low))+1))).bind fun x88=>
 (appC s2 [w64 (x63.Low+x88)]).bind fun x91=>
 some x91) 0 (x50.1.length:Int) []).bind fun s2=>
 (appC s0.1.Graph.Nodes [x45]).bind fun x97=>
 (appC s0.1.Values [s2]).bind fun x102=>
 some (.next (Host.mk (Graph.mk x97 s0.1.Graph.Edges) x102,w64 (s0.2+1)))
 else
 some (.brk (s0.1,s0.2))) (Host.mk (Graph.mk [] []) [],0)) (fun s0=>
 thenR (whR (ρ:=Host) (fun (s4:Host × Int)=>
 if ((((decide (s4.2<(d.Edges.length:Int)))&&(decide (s4.2<10)))&&(decide (0<(s0.1.Graph.Nodes.length:Int))))&&(decide (0<(t.Edges.length:Int))))=true then
 (idx d.Edges s4.2).bind fun x134=>
 (rmd (w64 x134.a0) (t.Edges.length:Int)).bind fun x141=>
 (idx d.Edges s4.2).bind fun x145=>
 (rmd (w64 x145.a1) (s0.1.Graph.Nodes.length:Int)).bind fun x150=>
 (idx d.Edges s4.2).bind fun x154=>
 (rmd (w64 x154.a2) (s0.1.Graph.Nodes.length:Int)).bind fun x159=>
 (idx s4.1.Graph.Nodes x150).bind fun x169=>
 (idx s4.1.Graph.Nodes x159).bind fun x176=>
 (ref04_Fits t x141 x169 x176).bind fun x178=>
 if x178=true then
 (appC s4.1.Graph.Edges [Edge.mk x141 x150 x159]).bind fun x184=>
 some (.next (Host.mk (Graph.mk s4.1.Graph.Nodes x184) s4.1.Values,w64 (s4.2+1)))
 else
 some (.next (s4.1,w64 (s4.2+1)))
 else
 some (.brk (s4.1,s4.2))) (s0.1,0)) (fun s4=>
 some s4.1) (fun v4=>some v4)) (fun v0=>some v0)
noncomputable def ref05_Copied (g:Graph):Option Graph:=
 (appC [] g.Nodes).bind fun x6=>
 (appC [] g.Edges).bind fun x10=>
 some (Graph.mk x6 x10)
noncomputable def ref05_Numbers (from':Int) (count:Int):Option (List Int):=
 (forA (fun (i0:Int) (s0:List Int)=>
 (appC s0 [w64 (from'+i0)]).bind fun x17=>
 some x17) 0 count []).bind fun s0=>
 some s0
noncomputable def ref53_whole (g:Graph):Option Part:=
 (ref05_Numbers 0 (g.Nodes.length:Int)).bind fun x6=>
 (ref05_Numbers 0 (g.Edges.length:Int)).bind fun x10=>
 some (Part.mk x6 x10)
noncomputable def ref53_rule (r_0:Rule) (left:Graph) (right:Graph) (into:Morphism):Option Rule:=
 (ref53_whole left).bind fun x16=>
 some (Rule.mk r_0.Name (Pattern.mk left [] 0 []) (Pattern.mk right [] 0 []) x16 into true (Condition.mk 1 [] (Morphism.mk [] []) (Pattern.mk (Graph.mk [] []) [] 0 [])))
noncomputable def ref02_Finest (n:Int):Option (List Int):=
 (forA (fun (i0:Int) (s0:List Int)=>
 (appC s0 [i0]).bind fun x13=>
 some x13) 0 n []).bind fun s0=>
 some s0
noncomputable def ref06_Of (g:Graph):Option Morphism:=
 (ref02_Finest (g.Nodes.length:Int)).bind fun x6=>
 (ref02_Finest (g.Edges.length:Int)).bind fun x10=>
 some (Morphism.mk x6 x10)
noncomputable def ref53_Made (d:ref53_Draft):Option Rule:=
 (ref52_Example).bind fun x12=>
 (slc d.Left.Nodes 0 (min 3 (d.Left.Nodes.length:Int))).bind fun x24=>
 (slc d.Left.Edges 0 (min 3 (d.Left.Edges.length:Int))).bind fun x33=>
 (ref15_Made x12.1 (ref15_Draft.mk x24 x33)).bind fun x35=>
 (ref05_Copied x35.Graph).bind fun x38=>
 thenR (whR (ρ:=Rule) (fun (s0:Graph × Int)=>
 if ((decide (s0.2<(d.Nodes.length:Int)))&&(decide (s0.2<3)))=true then
 (idx d.Nodes s0.2).bind fun x55=>
 (rmd (w64 x55) (x12.1.Nodes.length:Int)).bind fun x61=>
 (appC s0.1.Nodes [x61]).bind fun x63=>
 some (.next (Graph.mk x63 s0.1.Edges,w64 (s0.2+1)))
 else
 some (.brk (s0.1,s0.2))) (x38,0)) (fun s0=>
 thenR (whR (ρ:=Rule) (fun (s2:Graph × Int)=>
 if (((decide (s2.2<(d.Edges.length:Int)))&&(decide (s2.2<4)))&&(decide (0<(s0.1.Nodes.length:Int))))=true then
 (idx d.Edges s2.2).bind fun x86=>
 (rmd (w64 x86.a0) (x12.1.Edges.length:Int)).bind fun x93=>
 (idx d.Edges s2.2).bind fun x97=>
 (rmd (w64 x97.a1) (s0.1.Nodes.length:Int)).bind fun x102=>
 (idx d.Edges s2.2).bind fun x106=>
 (rmd (w64 x106.a2) (s0.1.Nodes.length:Int)).bind fun x111=>
 (idx s2.1.Nodes x102).bind fun x120=>
 (idx s2.1.Nodes x111).bind fun x126=>
 (ref04_Fits x12.1 x93 x120 x126).bind fun x128=>
 if x128=true then
 (appC s2.1.Edges [Edge.mk x93 x102 x111]).bind fun x133=>
 some (.next (Graph.mk s2.1.Nodes x133,w64 (s2.2+1)))
 else
 some (.next (s2.1,w64 (s2.2+1)))
 else
 some (.brk (s2.1,s2.2))) (s0.1,0)) (fun s2=>
 (ref06_Of x35.Graph).bind fun x139=>
 (ref53_rule (Rule.mk (⟨#[114]⟩:ByteArray) (Pattern.mk (Graph.mk [] []) [] 0 []) (Pattern.mk (Graph.mk [] []) [] 0 []) (Part.mk [] []) (Morphism.mk [] []) false (Condition.mk 0 [] (Morphism.mk [] []) (Pattern.mk (Graph.mk [] []) [] 0 []))) x35.Graph s2.1 x139).bind fun x140=>
 some x140) (fun v2=>some v2)) (fun v0=>some v0)
noncomputable def ref24_has (l:List Int) (n:Int):Option Bool:=
 thenR (forR (ρ:=Bool) (fun (i0:Int) (_:Unit)=>
 (idx l i0).bind fun x14=>
 if (decide (x14=n))=true then
 some (.ret true)
 else
 some (.next ())) 0 (l.length:Int) ()) (fun _=>
 some false) (fun v0=>some v0)
noncomputable def ref24_rest (n:Int) (l:List Int):Option (List Int):=
 (forA (fun (i0:Int) (s0:List Int)=>
 (ref24_has l i0).bind fun x14=>
 if (!x14)=true then
 (appC s0 [i0]).bind fun x19=>
 some x19
 else
 some s0) 0 n []).bind fun s0=>
 some s0
noncomputable def ref24_created (r_0:Rule):Option (List Int × List Int):=
 (ref24_rest (r_0.Right.Graph.Nodes.length:Int) r_0.Into.Nodes).bind fun x12=>
 (ref24_rest (r_0.Right.Graph.Edges.length:Int) r_0.Into.Edges).bind fun x21=>
 some (x12,x21)
noncomputable def ref05_kind (n:Int):Option Bool:=
 some ((decide (0<=n))&&(decide (n<=99)))
noncomputable def ref05_right (e:Edge) (nodes:Int):Option Bool:=
 (ref05_kind e.Type').bind fun x7=>
 some ((((x7&&(decide (0<=e.From)))&&(decide (e.From<nodes)))&&(decide (0<=e.To)))&&(decide (e.To<nodes)))
noncomputable def ref05_Valid (g:Graph):Option Int:=
 if ((decide (40<(g.Nodes.length:Int)))||(decide (80<(g.Edges.length:Int))))=true then
 some 3
 else
 thenR (forR (ρ:=Int) (fun (i0:Int) (_:Unit)=>
 (idx g.Nodes i0).bind fun x25=>
 (ref05_kind x25).bind fun x27=>
 if (!x27)=true then
 some (.ret 6)
 else
 some (.next ())) 0 (g.Nodes.length:Int) ()) (fun _=>
 thenR (forR (ρ:=Int) (fun (i2:Int) (_:Unit)=>
 (idx g.Edges i2).bind fun x39=>
 (ref05_right x39 (g.Nodes.length:Int)).bind fun x44=>
 if (!x44)=true then
 some (.ret 6)
 else
 some (.next ())) 0 (g.Edges.length:Int) ()) (fun _=>
 some 0) (fun v2=>some v2)) (fun v0=>some v0)
noncomputable def ref17_Typed (t:Types) (g:Graph):Option Bool:=
 thenR (forR (ρ:=Bool) (fun (i0:Int) (_:Unit)=>
 (idx g.Nodes i0).bind fun x17=>
 (if (decide (x17<0))=true then some true else ((idx g.Nodes i0).bind fun x24=>
 some (decide ((t.Nodes.length:Int)<=x24)))).bind fun x30=>
 if x30=true then
 some (.ret false)
 else
 some (.next ())) 0 (g.Nodes.length:Int) ()) (fun _=>
 thenR (forR (ρ:=Bool) (fun (i2:Int) (_:Unit)=>
 (idx g.Edges i2).bind fun x41=>
 (if (decide (x41.Type'<0))=true then some true else ((idx g.Edges i2).bind fun x49=>
 some (decide ((t.Edges.length:Int)<=x49.Type')))).bind fun x56=>
 if x56=true then
 some (.ret false)
 else
 some (.next ())) 0 (g.Edges.length:Int) ()) (fun _=>
 some true) (fun v2=>some v2)) (fun v0=>some v0)
noncomputable def ref21_attr (t:Types) (p:Pattern) (node:Int) (index:Int):Option (Attr × Bool):=
 if ((decide (node<0))||(decide ((p.Graph.Nodes.length:Int)<=node)))=true then
 some (Attr.mk (⟨#[]⟩:ByteArray) 0 0 [],false)
 else
 (idx p.Graph.Nodes node).bind fun x29=>
 (ref04_Attrs t x29).bind fun x31=>
 if (((!decide (x31.2=0))||(decide (index<0)))||(decide ((x31.1.length:Int)<=index)))=true then
 some (Attr.mk (⟨#[]⟩:ByteArray) 0 0 [],false)
 else
 (idx x31.1 index).bind fun x49=>
 some (x49,true)
noncomputable def ref21_bounded (n:Int):Option Bool:=
 some ((decide ((-1000000)<=n))&&(decide (n<=1000000)))
noncomputable def ref03_within (n:Int) (t:Term):Option Int:=
 if ((((decide (t.Var<(-1)))||(decide (n<=t.Var)))||(decide (t.Add<(-1000000))))||(decide (1000000<t.Add)))=true then
 some 6
 else
 some 0
noncomputable def ref03_One (n:Int) (x_1:Test):Option Int:=
 if ((!decide (x_1.Kind=1))&&(!decide (x_1.Kind=2)))=true then
 some 1
 else
 (ref03_within n x_1.Left).bind fun x17=>
 if (!decide (x17=0))=true then
 some x17
 else
 (ref03_within n x_1.Right).bind fun x24=>
 some x24
noncomputable def ref03_Valid (n:Int) (l:List Test):Option Int:=
 if ((decide (n<0))||(decide (12<n)))=true then
 some 6
 else
 if (decide (40<(l.length:Int)))=true then
 some 3
 else
 thenR (forR (ρ:=Int) (fun (i0:Int) (_:Unit)=>
 (idx l i0).bind fun x25=>
 (ref03_One n x25).bind fun x27=>
 if (!decide (x27=0))=true then
 some (.ret x27)
 else
 some (.next ())) 0 (l.length:Int) ()) (fun _=>
 some 0) (fun v0=>some v0)
noncomputable def ref21_occurs (p:Pattern) (v_1:Int):Option Bool:=
 thenR (forR (ρ:=Bool) (fun (i0:Int) (_:Unit)=>
 (idx p.Slots i0).bind fun x16=>
 if (decide (x16.Term.Var=v_1))=true then
 some (.ret true)
 else
 some (.next ())) 0 (p.Slots.length:Int) ()) (fun _=>
 some false) (fun v0=>some v0)
noncomputable def ref21_Valid (t:Types) (p:Pattern):Option Int:=
 (ref04_Valid t).bind fun x16=>
 if (!decide (x16.2=0))=true then
 some x16.2
 else
 (ref05_Valid p.Graph).bind fun x24=>
 if (!decide (x24=0))=true then
 some x24
 else
 (ref17_Typed t p.Graph).bind fun x31=>
 if (!x31)=true then
 some 13
 else
 if ((decide (p.Vars<0))||(decide (12<p.Vars)))=true then
 some 6
 else
 if ((decide (10<(p.Slots.length:Int)))||(decide (10<(p.Tests.length:Int))))=true then
 some 3
 else
 thenR (forR (ρ:=Int) (fun (i0:Int) (_:Unit)=>
 (idx p.Slots i0).bind fun x61=>
 (ref21_attr t p x61.Node x61.Attr).bind fun x70=>
 (if (((!x70.2)||(decide (x61.Term.Var<(-1))))||(decide (p.Vars<=x61.Term.Var)))=true then some true else ((ref21_bounded x61.Term.Add).bind fun x93=>
 some (!x93))).bind fun x95=>
 if x95=true then
 some (.ret 6)
 else
 some (.next ())) 0 (p.Slots.length:Int) ()) (fun _=>
 (ref03_Valid p.Vars p.Tests).bind fun x100=>
 if (!decide (x100=0))=true then
 some x100
 else
 thenR (forR (ρ:=Int) (fun (i2:Int) (_:Unit)=>
 (ref21_occurs p i2).bind fun x112=>
 if (!x112)=true then
 some (.ret 9)
 else
 some (.next ())) 0 p.Vars ()) (fun _=>
 some 0) (fun v2=>some v2)) (fun v0=>some v0)
noncomputable def ref24_slot (t:Types) (p:Pattern) (i_2:Int):Option Int:=
 (idx p.Slots i_2).bind fun x14=>
 if ((decide (x14.Node<0))||(decide ((p.Graph.Nodes.length:Int)<=x14.Node)))=true then
 some 6
 else
 (idx p.Graph.Nodes x14.Node).bind fun x35=>
 (ref04_Attrs t x35).bind fun x37=>
 if ((((((decide (x14.Attr<0))||(decide ((x37.1.length:Int)<=x14.Attr)))||(decide (x14.Term.Var<(-1))))||(decide (p.Vars<=x14.Term.Var)))||(decide (x14.Term.Add<(-1000000))))||(decide (1000000<x14.Term.Add)))=true then
 some 6
 else
 thenR (forR (ρ:=Int) (fun (i0:Int) (_:Unit)=>
 (idx p.Slots i0).bind fun x84=>
 (if (decide (x84.Node=x14.Node))=true then ((idx p.Slots i0).bind fun x94=>
 some (decide (x94.Attr=x14.Attr))) else some false).bind fun x100=>
 if x100=true then
 some (.ret 5)
 else
 some (.next ())) 0 i_2 ()) (fun _=>
 some 0) (fun v0=>some v0)
noncomputable def ref24_right (t:Types) (r_1:Rule):Option Int:=
 (ref05_Valid r_1.Right.Graph).bind fun x11=>
 if (!decide (x11=0))=true then
 some x11
 else
 (ref17_Typed t r_1.Right.Graph).bind fun x19=>
 if (!x19)=true then
 some 13
 else
 if ((!decide (r_1.Right.Vars=r_1.Left.Vars))||(decide (0<(r_1.Right.Tests.length:Int))))=true then
 some 1
 else
 if (decide (10<(r_1.Right.Slots.length:Int)))=true then
 some 3
 else
 thenR (forR (ρ:=Int) (fun (i0:Int) (_:Unit)=>
 (ref24_slot t r_1.Right i0).bind fun x52=>
 if (!decide (x52=0))=true then
 some (.ret x52)
 else
 some (.next ())) 0 (r_1.Right.Slots.length:Int) ()) (fun _=>
 some 0) (fun v0=>some v0)
noncomputable def ref07_ascending (l:List Int) (n:Int):Option Int:=
 thenR (forR (ρ:=Int) (fun (i0:Int) (_:Unit)=>
 (idx l i0).bind fun x14=>
 (if (decide (x14<0))=true then some true else ((idx l i0).bind fun x20=>
 some (decide (n<=x20)))).bind fun x24=>
 if x24=true then
 some (.ret 6)
 else
 (if (decide (0<i0))=true then ((idx l i0).bind fun x30=>
 (idx l (w64 (i0 - 1))).bind fun x35=>
 some (decide (x30<=x35))) else some false).bind fun x38=>
 if x38=true then
 some (.ret 12)
 else
 some (.next ())) 0 (l.length:Int) ()) (fun _=>
 some 0) (fun v0=>some v0)
noncomputable def ref07_has (l:List Int) (n:Int):Option Bool:=
 thenR (forR (ρ:=Bool) (fun (i0:Int) (_:Unit)=>
 (idx l i0).bind fun x14=>
 if (decide (x14=n))=true then
 some (.ret true)
 else
 some (.next ())) 0 (l.length:Int) ()) (fun _=>
 some false) (fun v0=>some v0)
noncomputable def ref07_Right (g:Graph) (p:Part):Option Int:=
 (ref07_ascending p.Nodes (g.Nodes.length:Int)).bind fun x14=>
 if (!decide (x14=0))=true then
 some x14
 else
 (ref07_ascending p.Edges (g.Edges.length:Int)).bind fun x23=>
 if (!decide (x23=0))=true then
 some x23
 else
 thenR (forR (ρ:=Int) (fun (i0:Int) (_:Unit)=>
 (idx p.Edges i0).bind fun x39=>
 (idx g.Edges x39).bind fun x41=>
 (ref07_has p.Nodes x41.From).bind fun x47=>
 (if (!x47)=true then some true else ((ref07_has p.Nodes x41.To).bind fun x54=>
 some (!x54))).bind fun x56=>
 if x56=true then
 some (.ret 14)
 else
 some (.next ())) 0 (p.Edges.length:Int) ()) (fun _=>
 some 0) (fun v0=>some v0)
noncomputable def ref07_Valid (g:Graph) (p:Part):Option Int:=
 (ref05_Valid g).bind fun x7=>
 if (!decide (x7=0))=true then
 some x7
 else
 (ref07_Right g p).bind fun x13=>
 some x13
noncomputable def ref07_index (l:List Int) (n:Int):Option Int:=
 thenR (forR (ρ:=Int) (fun (i0:Int) (_:Unit)=>
 (idx l i0).bind fun x14=>
 if (decide (x14=n))=true then
 some (.ret i0)
 else
 some (.next ())) 0 (l.length:Int) ()) (fun _=>
 some (-1)) (fun v0=>some v0)
noncomputable def ref07_Extract (g:Graph) (p:Part):Option (Graph × Morphism × Int):=
 (ref07_Valid g p).bind fun x14=>
 if (!decide (x14=0))=true then
 some (Graph.mk [] [],Morphism.mk [] [],x14)
 else
 (forA (fun (i0:Int) (s0:Graph)=>
 (idx p.Nodes i0).bind fun x34=>
 (idx g.Nodes x34).bind fun x36=>
 (appC s0.Nodes [x36]).bind fun x39=>
 some (Graph.mk x39 s0.Edges)) 0 (p.Nodes.length:Int) (Graph.mk [] [])).bind fun s0=>
 (forA (fun (i2:Int) (s2:Graph)=>
 (idx p.Edges i2).bind fun x53=>
 (idx g.Edges x53).bind fun x55=>
 (ref07_index p.Nodes x55.From).bind fun x65=>
 (ref07_index p.Nodes x55.To).bind fun x70=>
 (appC s2.Edges [Edge.mk x55.Type' x65 x70]).bind fun x73=>
 some (Graph.mk s2.Nodes x73)) 0 (p.Edges.length:Int) s0).bind fun s2=>
 (appC [] p.Nodes).bind fun x79=>
 (appC [] p.Edges).bind fun x83=>
 some (s2,Morphism.mk x79 x83,0)
noncomputable def ref06_Valid (a:Graph) (b:Graph) (m:Morphism):Option Int:=
 (ref05_Valid a).bind fun x14=>
 if (!decide (x14=0))=true then
 some x14
 else
 (ref05_Valid b).bind fun x19=>
 if (!decide (x19=0))=true then
 some x19
 else
 if ((!decide ((m.Nodes.length:Int)=(a.Nodes.length:Int)))||(!decide ((m.Edges.length:Int)=(a.Edges.length:Int))))=true then
 some 20
 else
 thenR (forR (ρ:=Int) (fun (i0:Int) (_:Unit)=>
 (idx m.Nodes i0).bind fun x49=>
 (if (decide (x49<0))=true then some true else ((idx m.Nodes i0).bind fun x56=>
 some (decide ((b.Nodes.length:Int)<=x56)))).bind fun x62=>
 if x62=true then
 some (.ret 6)
 else
 (idx m.Nodes i0).bind fun x68=>
 (idx b.Nodes x68).bind fun x70=>
 (idx a.Nodes i0).bind fun x75=>
 if (!decide (x70=x75))=true then
 some (.ret 13)
 else
 some (.next ())) 0 (a.Nodes.length:Int) ()) (fun _=>
 thenR (forR (ρ:=Int) (fun (i2:Int) (_:Unit)=>
 (idx m.Edges i2).bind fun x88=>
 (if (decide (x88<0))=true then some true else ((idx m.Edges i2).bind fun x95=>
 some (decide ((b.Edges.length:Int)<=x95)))).bind fun x101=>
 if x101=true then
 some (.ret 6)
 else
 (idx a.Edges i2).bind fun x105=>
 (idx m.Edges i2).bind fun x112=>
 (idx b.Edges x112).bind fun x114=>
 if (!decide (x105.Type'=x114.Type'))=true then
 some (.ret 13)
 else
 (idx m.Nodes x105.From).bind fun x125=>
 (if (!decide (x125=x114.From))=true then some true else ((idx m.Nodes x105.To).bind fun x135=>
 some (!decide (x135=x114.To)))).bind fun x140=>
 if x140=true then
 some (.ret 11)
 else
 some (.next ())) 0 (a.Edges.length:Int) ()) (fun _=>
 some 0) (fun v2=>some v2)) (fun v0=>some v0)
noncomputable def ref24_span (r_0:Rule):Option Int:=
 (ref07_Valid r_0.Left.Graph r_0.Keep).bind fun x12=>
 if (!decide (x12=0))=true then
 some x12
 else
 (ref07_Extract r_0.Left.Graph r_0.Keep).bind fun x22=>
 (ref06_Valid x22.1 r_0.Right.Graph r_0.Into).bind fun x32=>
 some x32
noncomputable def ref06_Distinct (l:List Int):Option Bool:=
 thenR (forR (ρ:=Bool) (fun (i0:Int) (_:Unit)=>
 thenR (forR (ρ:=Bool) (fun (i2:Int) (_:Unit)=>
 (idx l i0).bind fun x18=>
 (idx l i2).bind fun x22=>
 if (decide (x18=x22))=true then
 some (.ret false)
 else
 some (.next ())) 0 i0 ()) (fun _=>
 some (.next ())) (fun v2=>some (.ret v2))) 0 (l.length:Int) ()) (fun _=>
 some true) (fun v0=>some v0)
noncomputable def ref24_proper (t:Types) (g:Graph) (nodes:List Int) (edges:List Int):Option Bool:=
 thenR (forR (ρ:=Bool) (fun (i0:Int) (_:Unit)=>
 (idx nodes i0).bind fun x24=>
 (idx g.Nodes x24).bind fun x26=>
 (idx t.Nodes x26).bind fun x28=>
 if x28.Abstract=true then
 some (.ret false)
 else
 some (.next ())) 0 (nodes.length:Int) ()) (fun _=>
 thenR (forR (ρ:=Bool) (fun (i2:Int) (_:Unit)=>
 (idx edges i2).bind fun x41=>
 (idx g.Edges x41).bind fun x43=>
 (idx g.Nodes x43.From).bind fun x52=>
 (idx g.Nodes x43.To).bind fun x58=>
 (ref04_Fits t x43.Type' x52 x58).bind fun x60=>
 if (!x60)=true then
 some (.ret false)
 else
 some (.next ())) 0 (edges.length:Int) ()) (fun _=>
 some true) (fun v2=>some v2)) (fun v0=>some v0)
noncomputable def ref22_unused (c:Condition):Option Bool:=
 some (((decide ((w64 ((w64 ((w64 ((c.Map.Nodes.length:Int)+(c.Map.Edges.length:Int)))+(c.Pattern.Graph.Nodes.length:Int)))+(c.Pattern.Graph.Edges.length:Int)))=0))&&(decide ((w64 ((c.Pattern.Slots.length:Int)+(c.Pattern.Tests.length:Int)))=0)))&&(decide (c.Pattern.Vars=0)))
noncomputable def ref22_right (c:Condition):Option Bool:=
 if (decide (c.Kind=1))=true then
 (if (decide ((c.Kids.length:Int)=0))=true then ((ref22_unused c).bind fun x13=>
 some (x13)) else some false).bind fun x14=>
 some x14
 else
 if (decide (c.Kind=2))=true then
 (if (decide ((c.Kids.length:Int)=1))=true then ((ref22_unused c).bind fun x23=>
 some (x23)) else some false).bind fun x24=>
 some x24
 else
 (if (decide (c.Kind=3))=true then
 some (decide (c.Kind=3))
 else
 some (decide (c.Kind=4))).bind fun w1=>
 if w1=true then
 (if (decide (0<(c.Kids.length:Int)))=true then ((ref22_unused c).bind fun x34=>
 some (x34)) else some false).bind fun x35=>
 some x35
 else
 if (decide (c.Kind=5))=true then
 some (decide ((c.Kids.length:Int)=1))
 else
 some false
noncomputable def ref22_allRightF:Nat->Condition->Option Bool
 | 0,_=>none
 | n+1,c=>
  (ref22_right c).bind fun x5=>
  if (!x5)=true then
  some false
  else
  thenR (forR (ρ:=Bool) (fun (i0:Int) (_:Unit)=>
  (idx c.Kids i0).bind fun x17=>
  (ref22_allRightF n x17).bind fun x19=>
  if (!x19)=true then
  some (.ret false)
  else
  some (.next ())) 0 (c.Kids.length:Int) ()) (fun _=>
  some true) (fun v0=>some v0)
noncomputable def ref22_allRight (c:Condition):Option Bool:=lim fun n=>ref22_allRightF n c
noncomputable def ref22_MeasureF:Nat->Condition->Option (Int × Int)
 | 0,_=>none
 | n+1,c=>
  (forA (fun (i0:Int) (s0:Int × Int)=>
  (idx c.Kids i0).bind fun x20=>
  (ref22_MeasureF n x20).bind fun x22=>
  some (w64 (s0.1+x22.1),max s0.2 x22.2)) 0 (c.Kids.length:Int) (1,0)).bind fun s0=>
  (if (decide (c.Kind=5))=true then
  some (w64 (s0.2+1))
  else
  some s0.2).bind fun w1=>
  some (s0.1,w1)
noncomputable def ref22_Measure (c:Condition):Option (Int × Int):=lim fun n=>ref22_MeasureF n c
noncomputable def ref22_Shape (c:Condition):Option Int:=
 (ref22_allRight c).bind fun x6=>
 if (!x6)=true then
 some 1
 else
 (ref22_Measure c).bind fun x10=>
 if ((decide (12<x10.1))||(decide (3<x10.2)))=true then
 some 3
 else
 some 0
noncomputable def ref22_occurs (p:Pattern) (v_1:Int):Option Bool:=
 thenR (forR (ρ:=Bool) (fun (i0:Int) (_:Unit)=>
 (idx p.Slots i0).bind fun x16=>
 if (decide (x16.Term.Var=v_1))=true then
 some (.ret true)
 else
 some (.next ())) 0 (p.Slots.length:Int) ()) (fun _=>
 some false) (fun v0=>some v0)
noncomputable def ref22_inner (t:Types) (vars:Int) (q:Pattern):Option Int:=
 if (decide (q.Vars<vars))=true then
 some 20
 else
 (ref21_Valid t q).bind fun x15=>
 if (!decide (x15=9))=true then
 some x15
 else
 thenR (forR (ρ:=Int) (fun (i0:Int) (_:Unit)=>
 (ref22_occurs q i0).bind fun x28=>
 if (!x28)=true then
 some (.ret x15)
 else
 some (.next ())) vars q.Vars ()) (fun _=>
 some 0) (fun v0=>some v0)
noncomputable def ref06_Injective (a:Graph) (b:Graph) (m:Morphism):Option Bool:=
 (ref06_Valid a b m).bind fun x10=>
 (if (decide (x10=0))=true then ((ref06_Distinct m.Nodes).bind fun x15=>
 some (x15)) else some false).bind fun x16=>
 (if x16=true then ((ref06_Distinct m.Edges).bind fun x20=>
 some (x20)) else some false).bind fun x21=>
 some x21
noncomputable def ref22_overF:Nat->Types->Pattern->Condition->Option Int
 | 0,_,_,_=>none
 | n+1,t,p,c=>
  if (decide (c.Kind=5))=true then
  (ref22_inner t p.Vars c.Pattern).bind fun x21=>
  if (!decide (x21=0))=true then
  some x21
  else
  (ref06_Valid p.Graph c.Pattern.Graph c.Map).bind fun x32=>
  if (!decide (x32=0))=true then
  some x32
  else
  (ref06_Injective p.Graph c.Pattern.Graph c.Map).bind fun x43=>
  if (!x43)=true then
  some 1
  else
  thenR (forR (ρ:=Int) (fun (i0:Int) (_:Unit)=>
  (idx c.Kids i0).bind fun x59=>
  (ref22_overF n t c.Pattern x59).bind fun x61=>
  if (!decide (x61=0))=true then
  some (.ret x61)
  else
  some (.next ())) 0 (c.Kids.length:Int) ()) (fun _=>
  some 0) (fun v0=>some v0)
  else
  thenR (forR (ρ:=Int) (fun (i0:Int) (_:Unit)=>
  (idx c.Kids i0).bind fun x59=>
  (ref22_overF n t p x59).bind fun x61=>
  if (!decide (x61=0))=true then
  some (.ret x61)
  else
  some (.next ())) 0 (c.Kids.length:Int) ()) (fun _=>
  some 0) (fun v0=>some v0)
noncomputable def ref22_over (t:Types) (p:Pattern) (c:Condition):Option Int:=lim fun n=>ref22_overF n t p c
noncomputable def ref22_Valid (t:Types) (p:Pattern) (c:Condition):Option Int:=
 (ref21_Valid t p).bind fun x11=>
 if (!decide (x11=0))=true then
 some x11
 else
 (ref22_Shape c).bind fun x16=>
 if (!decide (x16=0))=true then
 some x16
 else
 (ref22_over t p c).bind fun x23=>
 some x23
noncomputable def ref24_Valid (t:Types) (r_1:Rule):Option Int:=
 (ref04_Valid t).bind fun x14=>
 if (!decide (x14.2=0))=true then
 some x14.2
 else
 (ref01_IsName r_1.Name).bind fun x22=>
 if (!x22)=true then
 some 2
 else
 (ref21_Valid t r_1.Left).bind fun x27=>
 if (!decide (x27=0))=true then
 some x27
 else
 (ref24_right t r_1).bind fun x33=>
 if (!decide (x33=0))=true then
 some x33
 else
 (ref24_span r_1).bind fun x38=>
 if (!decide (x38=0))=true then
 some x38
 else
 (ref06_Distinct r_1.Into.Nodes).bind fun x45=>
 (if (!x45)=true then some true else ((ref06_Distinct r_1.Into.Edges).bind fun x51=>
 some (!x51))).bind fun x53=>
 if x53=true then
 some 11
 else
 (ref24_created r_1).bind fun x56=>
 (ref24_proper t r_1.Right.Graph x56.1 x56.2).bind fun x65=>
 if (!x65)=true then
 some 13
 else
 (ref22_Valid t r_1.Left r_1.Condition).bind fun x72=>
 some x72
noncomputable def ref24_Created (t:Types) (r_1:Rule):Option (List Int × List Int × Int):=
 (ref24_Valid t r_1).bind fun x12=>
 if (!decide (x12=0))=true then
 some ([],[],x12)
 else
 (ref24_created r_1).bind fun x18=>
 some (x18.1,x18.2,0)
noncomputable def law53_TripleruleMarks_1_1 (n:Int) (c0:Int->Option Bool) (c1:Int->Option Int):Option Bool:=
 (c1 n).bind fun x8=>
 (c0 x8).bind fun x9=>
 some x9
noncomputable def law53_TripleruleMarks_1 (l:List Int) (kind:Int->Option Int) (wrong:Int->Option Bool):Option Bool:=
 (slices_ContainsFunc_int l (fun y0=>law53_TripleruleMarks_1_1 y0 wrong kind)).bind fun x9=>
 some (!x9)
noncomputable def law53_TripleruleMarks_2 (n:Int) (c0:Sorts) (c1:Rule):Option Int:=
 (idx c1.Left.Graph.Nodes n).bind fun x12=>
 (idx c0.Nodes x12).bind fun x14=>
 some x14
noncomputable def law53_TripleruleMarks_3 (n:Int) (c0:Sorts) (c1:Rule):Option Int:=
 (idx c1.Right.Graph.Nodes n).bind fun x12=>
 (idx c0.Nodes x12).bind fun x14=>
 some x14
noncomputable def law53_TripleruleMarks_4 (n:Int) (c0:Sorts) (c1:Rule):Option Int:=
 (idx c1.Right.Graph.Edges n).bind fun x12=>
 (idx c0.Edges x12.Type').bind fun x15=>
 some x15
noncomputable def law53_TripleruleMarks_5 (k:Int):Option Bool:=
 some (!decide (k=1))
noncomputable def law53_TripleruleMarks_6 (k:Int):Option Bool:=
 some (decide (k=1))
noncomputable def law53_TripleruleMarks_7 (k:Int):Option Bool:=
 some (decide (k=1))
noncomputable def law53_TripleruleMarks_8 (k:Int):Option Bool:=
 some (!decide (k=2))
noncomputable def law53_TripleruleMarks_9 (k:Int):Option Bool:=
 some (!decide (k=2))
noncomputable def law53_TripleruleMarks (d:ref53_Draft):Option Bool:=
 (law53_awake).bind fun x27=>
 (if (!x27)=true then some true else ((law53_small d).bind fun x31=>
 some (!x31))).bind fun x33=>
 if x33=true then
 (law53_awake).bind fun x34=>
 some x34
 else
 (ref52_Example).bind fun x36=>
 (ref53_Made d).bind fun x40=>
 (triplerule_Source x36.1 x36.2 x40).bind fun x45=>
 (triplerule_Forward x36.1 x36.2 x40).bind fun x52=>
 (triplerule_Consistency x36.1 x36.2 x40).bind fun x60=>
 (ref24_Created x36.1 x45.1).bind fun x67=>
 (ref24_Created x36.1 x52.1).bind fun x74=>
 (ref24_Created x36.1 x60.1).bind fun x81=>
 if ((((((((!decide (x45.2=0))||(!decide (x52.2.2=0)))||(!decide (x60.2.2=0)))||(!decide (x67.2.2=0)))||(!decide (x74.2.2=0)))||(!decide (x81.2.2=0)))||(!decide ((x52.2.1.Nodes.length:Int)=(x67.1.length:Int))))||(!decide ((x52.2.1.Edges.length:Int)=(x67.2.1.length:Int))))=true then
 some false
 else
 (law53_TripleruleMarks_1 x52.2.1.Nodes (fun y0=>law53_TripleruleMarks_2 y0 x36.2 x52.1) law53_TripleruleMarks_5).bind fun x130=>
 (if x130=true then ((law53_TripleruleMarks_1 x74.1 (fun y0=>law53_TripleruleMarks_3 y0 x36.2 x40) law53_TripleruleMarks_6).bind fun x135=>
 some (x135)) else some false).bind fun x136=>
 (if x136=true then ((law53_TripleruleMarks_1 x74.2.1 (fun y0=>law53_TripleruleMarks_4 y0 x36.2 x40) law53_TripleruleMarks_7).bind fun x141=>
 some (x141)) else some false).bind fun x142=>
 (if x142=true then ((law53_TripleruleMarks_1 x81.1 (fun y0=>law53_TripleruleMarks_3 y0 x36.2 x40) law53_TripleruleMarks_8).bind fun x147=>
 some (x147)) else some false).bind fun x148=>
 (if x148=true then ((law53_TripleruleMarks_1 x81.2.1 (fun y0=>law53_TripleruleMarks_4 y0 x36.2 x40) law53_TripleruleMarks_9).bind fun x153=>
 some (x153)) else some false).bind fun x154=>
 some x154
end Go.Sf.Sc
