/- Plain: a message that weighs no more than 20000 has few bytes. The walk of MsgsEncodes. -/
import Derived.Test.YtcalkfgibflbnaaGreatBafd
namespace Go.Proofs.YtcalkfgibflbnaaGreat
set_option linter.unusedVariables false
open Go.RowKit Fl
attribute [local go_sem] dJ
theorem ones {α:Type} (l:List α):(l.map fun _=>(1:Int)).sum=(l.length:Int):=by
 induction l with
 |nil=>rfl
 |cons a l ih=>simp only[List.map_cons,List.sum_cons,List.length_cons,ih];omega
theorem EN {α:Type} {f:α->List UInt8} {l:List α} {b:Int} (h:((l.flatMap f).length:Int)<=b) (hl:l.length<=20000):((aH f l).length:Int)<=10+b:=by
 have:=xw (n:=l.length) byOmega;unfold aH;rw[aK];omega
theorem ai7 {w:World} {m:Mg} {h:Hm} (ok:m.ok) (i:bH w w.heap.size m h) (hw:yC 20000 m<=20000):(bT m).length+10<=1000000000000:=by
 obtain⟨a,b,c,d,e,f,g,s,ha,hb,hc⟩:=VA m hw;obtain⟨sm,pl⟩:=VB i hw;obtain⟨hSt,-,-⟩:=Vp ok.sr ok.sf ok.sc i.hs i.pn s;have hSg:=Nu byOmega m.st s;have ga:=Ns (most:=20000) byOmega m.ks ha;have gb:=FX (most:=20000) byOmega (m.sn.map Sn.wt) 0 byOmega hb;have gc:=FX (most:=20000) byOmega m.ws 0 byOmega hc;rw[List.map_map]at gb;have f1:=EN (sZ bn lu 10 m.ks fun a ha=>by obtain⟨_,_,hok⟩:=i.ks.mem ha;exact Ew hok) a;have f2:=EN (sZ iL (iT∘Sn.wt) 60 m.sn fun a ha=>by
  obtain⟨_,_,hk,hv,hs⟩:=i.sn.mem ha;have h1:=Ew hk;have h2:=Om hv;have h3:=zI hs;have h4:lu a.key<=iT (Sn.wt a):=by simp only[iT,lu,Sn.wt];omega
  have h5:(a.v.t.size:Int)+1<=iT (Sn.wt a):=by simp only[iT,Sn.wt];omega
  have h6:(iL a).length=(bn a.key).length+((eY a.v).length+(aU a.s).length):=by unfold iL;simp only[aK]
  show _<=60*iT (Sn.wt a);omega) b
 have f3:=EN (sZ bP iT 30 m.ws fun a ha=>by obtain⟨_,_,hok⟩:=i.ws.mem ha;exact JG hok) c;have f4:=EN (sZ encI (fun _=>1) 10 m.ps fun a ha=>by
  obtain⟨_,_,hok⟩:=i.ps.mem ha;have:=iE hok.1 hok.2;omega) d
 have f5:=EN (sZ dU (fun _=>1) 36 m.rs fun a ha=>by
  obtain⟨_,_,h1,h2,h3,h4⟩:=i.rs.mem ha;have e1:=iE h1.1 h1.2;have e2:=iE h2.1 h2.2;have e3:(dK a.lo).length=8:=xP 8 _;have e4:(dK a.hi).length=8:=xP 8 _;unfold dU;simp only[aK];omega) e
 have f6:=EN (sZ iM (fun _=>1) 6000010 m.rc fun a ha=>by
  have h1:=(pl a ha).e;have h2:(fM a).length<=6000000:=by
   unfold fM;split
   · exact h1
   · exact Nat.zero_le _
  have h3:=xw (n:=(fM a).length) byOmega;unfold iM jX;rw[aK];omega) f
 rw[ones]at f4 f5 f6;have e0:=iE ok.k.1 ok.k.2;have e1:=iE ok.fr.1 ok.fr.2;have e2:=iE ok.aG.1 ok.aG.2;have e3:=iE ok.rg.1 ok.rg.2;have e4:=iE ok.ep.1 ok.ep.2;have e5:=iE ok.cd.1 ok.cd.2;have e6:=iE ok.n.1 ok.n.2;have e7:=iE ok.mx.1 ok.mx.2;have e8:=zI ok.s;have e9:=zI ok.pv;have e10:=Oo ok.t;have e11:(qF m.cm).length=1:=by cases m.cm<;>rfl
 have hD:(jg m).length<=150000000000:=by
  unfold jg
  repeat' split
  all_goals try simp only[aK,List.length_nil]
  all_goals omega
 have hM:(iZ m).length<=160000000000:=by
  unfold iZ
  repeat' split
  all_goals try simp only[aK,List.length_nil]
  all_goals omega
 unfold bT;simp only[aK];omega
set_option maxRecDepth 100000 in
set_option maxHeartbeats 4000000 in
theorem ai8 (r:Mg) (h:Hm) (m:Int) (x:UInt8) (w:World) (ok:r.ok) (i:bH w w.heap.size r h) (cp:h.caps) (hm:bG m):
 Calls Tryz.prog 6 #[.agg (r.vals h),.int .i64 m,.int .u8 (x.toNat:Int)] w fun e w'=>e=.returned (.bool true)/\Below w.heap.size w w':=by
 have hX:Below w.heap.size w (w.alloc (.cells (r.vals h) 41)):=aJ;have B0:aj (w.alloc (.cells (r.vals h) 41)) w.heap.size 41 (r.vals h):=aj.new _ _ _;go_enter Tryz.func6,Tryz.ntmps6;go_wp2_with fail;refine(EL _).mono ?_;rintro e w1 ⟨rfl,hb1⟩;have B1:=B0.below hb1 B0.lt;have hX1:=hX.trans (hb1.mono hX.size);clear B0 hb1 hX;go_wp2_with (guard_target=~ wpList _ _ _ _ _ _;refine wpList_load_row rfl 41 _ rfl w.heap.size ah _ _ (0,0) _ B1 rfl rfl ah ?_);refine(afI r h w1 (i.up hX1) cp).mono ?_;rintro e w2 ⟨rfl,hb2⟩;have B2:=B1.below hb2 B1.lt;have hX2:=hX1.trans (hb2.mono hX1.size);clear B1 hb2 hX1;by_cases hw:yC 20000 r<=20000
 · have hd:decide (yC 20000 r<=20000)=true:=decide_eq_true hw;obtain⟨sm,pl⟩:=VB i hw;have hlen:=ai7 ok i hw;have wB:=V5 ok i sm pl;rw[hd];clear hd hw;go_wp2_with (guard_target=~ wpList _ _ _ _ _ _;refine wpList_load_row rfl 41 _ rfl w.heap.size ah _ _ (0,0) _ B2 rfl rfl ah ?_);refine(aiV r h w2 ok (i.up hX2) cp sm pl hlen).mono ?_;rintro e w3 ⟨A3,c3,rfl,q3,m3,o3,hb3⟩;have B3:=B2.below hb3 B2.lt;have fU:=hX2.trans (hb3.mono hX2.size);clear B2 hX2 hb3;by_cases he:kJ r (bT r)=0
   · have hbE:(kJ r (bT r)==0)=true:=(by simp[he]);obtain⟨hmay,h4M,hout⟩:=EM he;obtain⟨k0,k1⟩:=aiZ he wB;have hcut:∀(k:Nat),k<(bT r).length->∀(w:World) (g:Hm),(iC ((bT r).take k)).ok->bH w w.heap.size (iC ((bT r).take k)) g->kQ ((bT r).take k)=4:=fun k hk w g OT i=>ai1 he wB hk OT i
     have Xh:=ai2 he wB x;have Xi:=fun (l:List UInt8) (hl:l≠bT r) (hd:kQ l=0)=>ai3 he hl hd
     have hpos:=ai4 r;rw[hout]at q3 o3 ⊢;have hD1:=EK A3 (bT r).length c3 (bT r) w3 (Reads.kK o3) byOmega byOmega;rw[k0,k1]at hD1;generalize hbs:bT r=bs at*;have HB:=au hbs;clear hbs hout k0 k1 he hmay hlen wB;go_wp2_with fail;refine hD1.mono ?_;rintro e w4 ⟨h4,he4,OU,hb4⟩;replace he4:e=.returned (.tuple #[.agg (r.vals h4),.int .i64 0]):=he4;subst he4;have cp4:=OU.2.1;have i4:=OU.2.2.inn;clear OU;have B4:=(B3.below hb4 B3.lt).alloc (.cells (r.vals h4) 41);have jV:=fU.trans (hb4.mono fU.size);have JY:Below w4.heap.size w4 (w4.alloc (.cells (r.vals h4) 41)):=aJ;have C4:aj (w4.alloc (.cells (r.vals h4) 41)) w4.heap.size 41 (r.vals h4):=aj.new _ _ _;have oz:=jV.trans (JY.mono jV.size);have hbX:=hb4.trans (JY.mono hb4.size);have EC:=((Reads.kK o3).below hbX).more hbX.size;clear hbX;clear hD1 B3 fU jV hb4;go_wp2_with (first
        |(guard_target=~ wpList _ _ _ _ _ _;refine iO rfl 41 _ _ rfl w4.heap.size (r.vals h4) ah ah rfl _ _ ah ah ah ?_)
        |(guard_target=~ wpList _ _ _ _ _ _;refine Cb ah 41 (.tmp 9) rfl w4.heap.size ah _ _ (0,0) _ C4 rfl rfl ah ?_)
        |(guard_target=~ wpList _ _ _ _ _ _;refine Cb ah 41 (.tmp 3) rfl w.heap.size ah _ _ (0,0) _ B4 rfl rfl ah ?_))
     have hM1:=Xe r r h h4 _ (i.up oz) (i4.up JY) cp cp4;rw[Mg.kL]at hM1;refine hM1.mono ?_;rintro e w6 ⟨rfl,hb6⟩;have B6:=B4.below hb6 B4.lt;have tq:=oz.trans (hb6.mono oz.size);have OV:=(EC.below hb6).more hb6.size;clear B4 C4 oz JY EC i4 hb6 hM1;have ajE:((bs.length:Int)==0)=false:=(by rw[beq_eq_false_iff_ne];omega);have hbne:¬(bs.length:Int)=0:=byOmega;obtain⟨k,hk,hkm⟩:∃k:Nat,k<bs.length/\((k:Int)=(if m<0 then -(m+1) else m).tmod (bs.length:Int)):=by
        have h0:0<=(if m<0 then -(m+1) else m):=by
         by_cases hq:m<0
         · rw[if_pos hq];omega
         · rw[if_neg hq];omega
        obtain⟨q,hq⟩:∃q:Nat,(q:Int)=(if m<0 then -(m+1) else m):=⟨_,Int.toNat_of_nonneg h0⟩;exact⟨q%bs.length,Nat.mod_lt _ hpos,by rw[<-hq];rfl⟩
     obtain⟨hm1,hm2⟩:=hm;clear cp4;have hS:Reads w6 w6.heap.size 1 A3 k (bytesV (bs.take k)):=by
        refine⟨by simp;omega,fun hk0=>?_⟩;obtain⟨ad,e,hlt,hx⟩:=OV.2 hpos;refine⟨ad,e,hlt,fun j u hj=>hx j u ?_⟩;have hj':j<k:=(by have:=(List.getElem?_eq_some_iff.1 hj).1;simp at this;omega);rw[<-hj];show (bs.map _)[j]?=((bs.take k).map _)[j]?;rw[List.map_take,List.getElem?_take_of_lt hj']
     have hD2:=EK A3 k c3 (bs.take k) w6 hS byOmega byOmega;have Xj:=hcut k hk;have hkc:k<=c3:=byOmega;clear hcut hS;by_cases hneg:m<0
     case' pos=>
        have hd:decide (m<0)=true:=decide_eq_true hneg;rw[if_pos hneg]at hkm;have OW:=hkm;simp only[Int.neg_tmod]at OW;have HK:=au OW;clear hkm OW;go_upto_region 14 with fail;rw[<-HK.out]
     case' neg=>
        have hd:decide (m<0)=false:=decide_eq_false hneg;rw[if_neg hneg,Int.tmod_eq_emod_of_nonneg byOmega]at hkm;have HK:=au hkm;clear hkm;go_upto_region 14 with fail;rw[<-HK.out]
     all_goals
        have hk0:(0:Int)<=(k:Int):=byOmega;have hk1:(k:Int)<=(c3:Int):=byOmega;have hk2:(k:Int)<(bs.length:Int):=byOmega;clear hd hneg HK;go_wp2_with fail;refine hD2.mono ?_;rintro e w7 ⟨h7,OX,OY,hb7⟩;replace OX:e=.returned (.tuple #[.agg ((iC (bs.take k)).vals h7),.int .i64 4]):=(by rw[<-Xj w7 h7 OY.1 OY.2.2.inn];exact OX);subst OX;clear OY Xj;have hb8:Below w7.heap.size w7 (w7.alloc (.cells ((iC (bs.take k)).vals h7) 41)):=aJ;have aB:=hb7.trans (hb8.mono hb7.size);have B7:=B6.below aB B6.lt;have xg:=tq.trans (aB.mono tq.size);have OZ:=(OV.below aB).more aB.size;generalize iC (bs.take k)=d1 at*;clear hb7 hb8 aB B6 tq OV hD2;have Xk:=U6 A3 bs.length c3 bs (w7.alloc (.cells (d1.vals h7) 41)) OZ byOmega;go_wp2_with (guard_target=~ wpList _ _ _ _ _ _;refine iO rfl 41 _ _ rfl w7.heap.size (d1.vals h7) ah ah rfl _ _ ah ah ah ?_);refine Xk.mono ?_;rintro e w8 ⟨A8,c8,rfl,hq8,hm8,o8,hb8⟩;have rY:Below w8.heap.size w8 (w8.alloc (.cells #[.int .u8 (x.toNat:Int)] 5)):=aJ;have O0:=o8.alloc (.cells #[.int .u8 (x.toNat:Int)] 5);have r8:=nK w8 5 [.int .u8 (x.toNat:Int)] 1 rfl;obtain⟨i0,hi0,hz0,hz1,hz2⟩:=oW oV;have hzw:(w7.alloc (.cells (d1.vals h7) 41)).heap.size<=w8.heap.size+1:=(by have:=hb8.size;omega);clear Xk;go_wp2_with (first
         |(at_builtin
           refine iI _ rfl (.tmp 64) (.tmp 66) _ rfl (w7.alloc (.cells (d1.vals h7) 41)).heap.size 5 i0 _ 1 1 Tryz.underlying49 hi0 hz0 hz1 hz2 rfl byOmega (.slice A8 bs.length c8) _ (bytesV bs) aI O0 _ (some ⟨w8.heap.size,0,none⟩) 1 1 [.int .u8 (x.toNat:Int)] aI
             r8 (by intro u hu;simp only[List.mem_cons,List.not_mem_nil,or_false]at hu;subst hu;rfl) dX byOmega (by simpa using hzw) ?_
           intro v9 w9 o9 rX Gq;obtain⟨A9,c9,rfl,NJ,hm9⟩:=fP o9)
         |fail)
        have aB:Below (w7.alloc (.cells (d1.vals h7) 41)).heap.size (w7.alloc (.cells (d1.vals h7) 41)) w9:=(hb8.trans (rY.mono hb8.size)).grown rX (by have:=rY.size;have:=hb8.size;omega) (fun q hq=>(O0.lt q hq).1);have B9:=B7.below aB B7.lt;have O1:=xg.trans (aB.mono xg.size);have Xl:=(OZ.below aB).more aB.size;have Xm:w9.ownsRow (w7.alloc (.cells (d1.vals h7) 41)).heap.size 5 1 (.slice A9 (bs.length+1) c9) (bs.length+1) (bytesV (bs++[x])):=by
         have e:bytesV (bs++[x])=bytesV bs++[.int .u8 (x.toNat:Int)]:=(by show (bs++[x]).map _=_;rw[List.map_append];rfl);rw[e];exact o9
        have hD3:=EK A9 (bs.length+1) c9 (bs++[x]) w9 (Reads.kK Xm) byOmega byOmega;rw[Xh]at hD3;clear B7 xg OZ aB rX Gq o9 Xm o8 O0 r8 rY hb8 hzw;go_wp2_with fail;refine hD3.mono ?_;rintro e w10 ⟨h10,O3,ai9,O4⟩;replace O3:e=.returned (.tuple #[.agg ((iC (bs++[x])).vals h10),.int .i64 4]):=O3;subst O3;clear ai9;have hbB:Below w10.heap.size w10 (w10.alloc (.cells ((iC (bs++[x])).vals h10) 41)):=aJ;have Ho:=O4.trans (hbB.mono O4.size);have B11:=B9.below Ho B9.lt;have O5:=O1.trans (Ho.mono O1.size);have Xn:=(Xl.below Ho).more Ho.size;generalize iC (bs++[x])=d2 at*;clear hD3 B9 O1 Xl O4 hbB Ho;have hC2:=U6 A3 bs.length c3 bs (w10.alloc (.cells (d2.vals h10) 41)) Xn byOmega;go_wp2_with (guard_target=~ wpList _ _ _ _ _ _;refine iO rfl 41 _ _ rfl w10.heap.size (d2.vals h10) ah ah rfl _ _ ah ah ah ?_);refine hC2.mono ?_;rintro e w12 ⟨A12,c12,rfl,hq12,ajF,EO,O6⟩;have Xo:=B11.below O6 B11.lt;have Xp:=O5.trans (Below.mono (w:=w10.alloc (.cells (d2.vals h10) 41)) O6 O5.size);have MJ:=au B11.lt;clear hC2 B11 O5 Xn O6;obtain⟨g12,ai'⟩:∃g12,A12=some ⟨g12,0,none⟩:=by
         obtain⟨_,⟨e,h0⟩|⟨g12,cap,cur,e,_⟩⟩:=EO
         · omega
         · injection e with e;exact⟨g12,e⟩
        subst ai';obtain⟨a,ha⟩:∃a,bs[k]?=some a:=⟨_,List.getElem?_eq_getElem hk⟩;have hz:=EO.cellAt k byOmega;have hz2:(bytesV bs)[k]?=some (.int .u8 (a.toNat:Int)):=(by show (bs.map _)[k]?=_;rw[List.getElem?_map,ha];rfl);rw[hz2]at hz;have hf:=EO.frozenAt k;have aja:bits .xor .u8 (a.toNat:Int) (x.toNat:Int)=((a.toNat^^^x.toNat:Nat):Int):=u8_xor_nat _ _ a.toNat_lt x.toNat_lt;obtain⟨Xq,ajb⟩:=EO.stored k (.int .u8 ((a.toNat^^^x.toNat:Nat):Int));have Xr:(w12.setCell ⟨g12,k,none⟩ (.int .u8 ((a.toNat^^^x.toNat:Nat):Int))).ownsRow (w10.alloc (.cells (d2.vals h10) 41)).heap.size 5 1 (.slice (some ⟨g12,0,none⟩) bs.length c12) bs.length (bytesV (bs.set k (a^^^x))):=by
         have e:bytesV (bs.set k (a^^^x))=(bytesV bs).set k (.int .u8 ((a.toNat^^^x.toNat:Nat):Int)):=(by show (bs.set k _).map _=_;rw[List.map_set,UInt8.toNat_xor]);rw[e];exact Xq
        have ajG:=(EO.lt g12 rfl).1;have hD4:=EK (some ⟨g12,0,none⟩) bs.length c12 (bs.set k (a^^^x)) _ (Reads.kK Xr) byOmega byOmega;have hgw:w.heap.size<g12:=(by have:=MJ.out;omega);clear hz2 Xq ajb Xr EO;go_wp2_with fail;refine hD4.mono ?_;rintro e yG ⟨vF,O7,O8,Hf⟩;replace O7:e=.returned (.tuple #[.agg ((iC (bs.set k (a^^^x))).vals vF),.int .i64 (kQ (bs.set k (a^^^x)))]):=O7;subst O7;have Xt:=O8.2.1;have Xu:=O8.2.2.inn;clear O8;have hbs:Below w.heap.size w (w12.setCell ⟨g12,k,none⟩ (.int .u8 ((a.toNat^^^x.toNat:Nat):Int))):=Xp.setCell (p:=⟨g12,k,none⟩) ay _;have O9:=Xo.far (p:=⟨g12,k,none⟩) ay (.int .u8 ((a.toNat^^^x.toNat:Nat):Int));have hbC:Below yG.heap.size yG (yG.alloc (.cells ((iC (bs.set k (a^^^x))).vals vF) 41)):=aJ;have Pg:=Hf.trans (hbC.mono Hf.size);have B15:=O9.below Pg O9.lt;have C15:aj (yG.alloc (.cells ((iC (bs.set k (a^^^x))).vals vF) 41)) yG.heap.size 41 ((iC (bs.set k (a^^^x))).vals vF):=aj.new _ _ _;have Dn:=hbs.trans (Pg.mono hbs.size);have i15:=Xu.up hbC;have hsame:x≠0->kQ (bs.set k (a^^^x))=0->(iC (bs.set k (a^^^x))).same r=false:=fun hx h0=>by
         cases hq:(iC (bs.set k (a^^^x))).same r
         · rfl
         · exact absurd (Mg.same_eq hq) (Xi _ (ai5 ha hx) h0)
        have h04:=Xg (bs.set k (a^^^x));have hR:=fun W (hW:Below w.heap.size w W) (j:bH W W.heap.size (iC (bs.set k (a^^^x))) vF)=>Xe (iC (bs.set k (a^^^x))) r vF h W j (i.up hW) Xt cp
        generalize iC (bs.set k (a^^^x))=d3 at*;generalize kQ (bs.set k (a^^^x))=e3 at*;clear hD4 hbs Xo O9 Xp Hf hbC Pg Xu hz hf aja Xi Xh Xt;by_cases hx0:x=0
        · have hx1:((x.toNat:Int)==0)=true:=(by rw[hx0];rfl);clear hR hsame hx0;go_wp2_with (guard_target=~ wpList _ _ _ _ _ _;refine iO rfl 41 _ _ rfl yG.heap.size (d3.vals vF) ah ah rfl _ _ ah ah ah ?_);refine(EL _).mono ?_;rintro e Xv ⟨rfl,Hq⟩;go_wp2;go_ret;exact⟨rfl,Dn.trans (Hq.mono Dn.size)⟩
        · have hx1:((x.toNat:Int)==0)=false:=by
           rw[beq_eq_false_iff_ne];intro hq;apply hx0;apply UInt8.toNat_inj.1;show x.toNat=0;omega
          rcases h04 with rfl|rfl
          · have hfalse:=hsame hx0 rfl;have Hg:=hR (yG.alloc (.cells (d3.vals vF) 41)) Dn i15;rw[hfalse]at Hg;clear hR hsame hfalse;go_wp2_with (first
             |(guard_target=~ wpList _ _ _ _ _ _;refine iO rfl 41 _ _ rfl yG.heap.size (d3.vals vF) ah ah rfl _ _ ah ah ah ?_)
             |(guard_target=~ wpList _ _ _ _ _ _;refine Cb ah 41 (.tmp 16) rfl yG.heap.size ah _ _ (0,0) _ C15 rfl rfl ah ?_)
             |(guard_target=~ wpList _ _ _ _ _ _;refine Cb ah 41 (.tmp 3) rfl w.heap.size ah _ _ (0,0) _ B15 rfl rfl ah ?_))
            refine Hg.mono ?_;rintro e w16 ⟨rfl,hb16⟩;have Xw:=Dn.trans (hb16.mono Dn.size);clear Hg hb16;go_wp2_with fail;refine(EL _).mono ?_;rintro e Xv ⟨rfl,Hq⟩;go_wp2;go_ret;exact⟨rfl,Xw.trans (Hq.mono Xw.size)⟩
          · clear hR hsame;go_wp2_with (guard_target=~ wpList _ _ _ _ _ _;refine iO rfl 41 _ _ rfl yG.heap.size (d3.vals vF) ah ah rfl _ _ ah ah ah ?_);refine(EL _).mono ?_;rintro e Xv ⟨rfl,Hq⟩;go_wp2;go_ret;exact⟨rfl,Dn.trans (Hq.mono Dn.size)⟩
   · have hbE:(kJ r (bT r)==0)=false:=(by simp[he]);go_wp2_with fail;refine(EL _).mono ?_;rintro e w4 ⟨rfl,hb4⟩;go_wp2;go_ret;exact⟨rfl,fU.trans (hb4.mono fU.size)⟩
 · have hd:decide (yC 20000 r<=20000)=false:=decide_eq_false hw;rw[hd];clear hd hw;go_wp2_with fail;refine(EL _).mono ?_;rintro e w3 ⟨rfl,hb3⟩;go_wp2;go_ret;exact⟨rfl,hX2.trans (hb3.mono hX2.size)⟩
theorem ajc {n:Int} (h:(Lit.int .i64 n).wf=true):bG n:=by
 have: -9223372036854775808<=n/\n<=9223372036854775807:=by simpa [Lit.wf,IntKind.min,IntKind.max,IntKind.signed,IntKind.bits] using h
 exact this
