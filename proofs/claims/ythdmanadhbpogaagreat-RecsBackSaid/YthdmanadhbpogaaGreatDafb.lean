/- The walk of RecsBack. -/
import Derived.Deep.CutRange
import Derived.Test.YthdmanadhbpogaaGreatDaea
import Derived.Test.YthdmanadhbpogaaGreatDaeb
import Derived.Test.YthdmanadhbpogaaGreatDaee
import Derived.Test.YthdmanadhbpogaaGreatDafa
namespace Go.Proofs.YthdmanadhbpogaaGreat
set_option linter.unusedVariables false
open Go.RowKit Fl
attribute [local go_sem] run_store_float
set_option maxRecDepth 100000 in
set_option maxHeartbeats 4000000 in
theorem back_any (r:Rc) (h:Hds) (m:Int) (x:UInt8) (w:World) (ok:r.ok) (i:RcIn w r h) (cp:h.caps) (hm:i64ok m):
 Calls Tryz.prog 6 #[.agg (r.vals h),.int .i64 m,.int .u8 (x.toNat:Int)] w fun e w'=>e=.returned (.bool true)∧Below w.heap.size w w':=by
 have hX:Below w.heap.size w (w.alloc (.cells (r.vals h) 38)):=by go_grown
 have B0:Blk (w.alloc (.cells (r.vals h) 38)) w.heap.size 38 (r.vals h):=Blk.new _ _ _
 go_enter Tryz.func6,Tryz.ntmps6
 go_wp2_with fail
 refine(first2_any _).mono ?_
 rintro e w1 ⟨rfl,hb1⟩
 have B1:=B0.below hb1 B0.lt
 have hX1:=hX.trans (hb1.mono hX.size)
 clear B0 hb1 hX
 go_wp2_with (guard_target=~ wpList _ _ _ _ _ _;refine wpList_load_row rfl 38 _ rfl w.heap.size (by kernel_rfl) _ _ (0,0) _ B1 rfl rfl (by kernel_rfl) ?_)
 refine(few_any r h w1 (i.below hX1)).mono ?_
 rintro e w2 ⟨rfl,hb2⟩
 have B2:=B1.below hb2 B1.lt
 have hX2:=hX1.trans (hb2.mono hX1.size)
 clear B1 hb2 hX1
 by_cases hw:weighRec 20000 r≤20000
 · have hd:decide (weighRec 20000 r≤20000)=true:=decide_eq_true hw
   obtain⟨sm,hlen⟩:=rec_small ok i hw
   have rok:=rcOk_of ok i sm
   rw[hd]
   clear hd hw
   go_wp2_with (guard_target=~ wpList _ _ _ _ _ _;refine wpList_load_row rfl 38 _ rfl w.heap.size (by kernel_rfl) _ _ (0,0) _ B2 rfl rfl (by kernel_rfl) ?_)
   refine(xEncode r h w2 ok (i.below hX2) sm (by omega)).mono ?_
   rintro e w3 ⟨A3,c3,rfl,q3,m3,o3,hb3⟩
   have B3:=B2.below hb3 B2.lt
   have hX3:=hX2.trans (hb3.mono hX2.size)
   clear B2 hX2 hb3
   by_cases he:encE r=0
   · have hbE:(encE r==0)=true:=by simp[he]
     obtain⟨hmay,h262,hout⟩:=encE_ok he
     obtain⟨k0,k1⟩:=dec_back he rok
     have hcut:=fun k (hk:k<(encRc r).length)=>dec_cut' he rok hk
     have hmor:=dec_more' he rok x
     have htrn:=fun (l:List UInt8) (hl:l≠encRc r) (hd:decE l=0)=>dec_turn he hl hd
     have hpos:=encRc_pos r
     rw[hout]at q3 o3 ⊢
     have hD1:=decode_any A3 (encRc r).length c3 (encRc r) w3 (Reads.of_own o3) (by omega)
     rw[k0,k1]at hD1
     generalize hbs:encRc r=bs at*
     have HB:=Lib.hid hbs
     clear hbs hout k0 k1 he hmay
     go_wp2_with fail
     refine hD1.mono ?_
     rintro e w4 ⟨h4,rfl,-,cp4,i4,hb4⟩
     have B4:=(B3.below hb4 B3.lt).alloc (.cells (r.vals h4) 38)
     have hX4:=hX3.trans (hb4.mono hX3.size)
     have hA4:Below w4.heap.size w4 (w4.alloc (.cells (r.vals h4) 38)):=by go_grown
     have C4:Blk (w4.alloc (.cells (r.vals h4) 38)) w4.heap.size 38 (r.vals h4):=Blk.new _ _ _
     have hX5:=hX4.trans (hA4.mono hX4.size)
     have hbX:=hb4.trans (hA4.mono hb4.size)
     have hO5:=((Reads.of_own o3).below hbX).more hbX.size
     clear hbX
     clear hD1 B3 hX3 hX4 hb4
     go_wp2_with (first
        |(guard_target=~ wpList _ _ _ _ _ _;refine wpList_store_at rfl 38 _ _ rfl w4.heap.size (r.vals h4) (by kernel_rfl) (by kernel_rfl) rfl _ _ (by kernel_rfl) (by kernel_rfl) (by kernel_rfl) ?_)
        |(guard_target=~ wpList _ _ _ _ _ _;refine wpList_load_row_g (by kernel_rfl) 38 (.tmp 9) rfl w4.heap.size (by kernel_rfl) _ _ (0,0) _ C4 rfl rfl (by kernel_rfl) ?_)
        |(guard_target=~ wpList _ _ _ _ _ _;refine wpList_load_row_g (by kernel_rfl) 38 (.tmp 3) rfl w.heap.size (by kernel_rfl) _ _ (0,0) _ B4 rfl rfl (by kernel_rfl) ?_))
     refine(recSelf_any r h h4 _ (i.below hX5) (i4.below hA4)).mono ?_
     rintro e w6 ⟨rfl,hb6⟩
     have B6:=B4.below hb6 B4.lt
     have hX6:=hX5.trans (hb6.mono hX5.size)
     have hO6:=(hO5.below hb6).more hb6.size
     clear B4 C4 hX5 hA4 hO5 i4 hb6
     have hbpos:((bs.length:Int)==0)=false:=by rw[beq_eq_false_iff_ne];omega
     have hbne:¬(bs.length:Int)=0:=by omega
     obtain⟨k,hk,hkm⟩:∃k:Nat,k<bs.length∧((k:Int)=(if m<0 then -(m+1) else m).tmod (bs.length:Int)):=by
        have h0:0≤(if m<0 then -(m+1) else m):=by
         by_cases hq:m<0
         · rw[if_pos hq];omega
         · rw[if_neg hq];omega
        obtain⟨q,hq⟩:∃q:Nat,(q:Int)=(if m<0 then -(m+1) else m):=⟨_,Int.toNat_of_nonneg h0⟩
        exact⟨q%bs.length,Nat.mod_lt _ hpos,by rw[←hq];rfl⟩
     obtain⟨hm1,hm2⟩:=hm
     clear cp4
     have hS:Reads w6 w6.heap.size 1 A3 k (bytesV (bs.take k)):=by
        refine⟨by simp;omega,fun hk0=>?_⟩
        obtain⟨ad,e,hlt,hx⟩:=hO6.2 hpos
        refine⟨ad,e,hlt,fun j u hj=>hx j u ?_⟩
        have hj':j<k:=by have:=(List.getElem?_eq_some_iff.1 hj).1;simp at this;omega
        rw[←hj]
        show (bs.map _)[j]?=((bs.take k).map _)[j]?
        rw[List.map_take,List.getElem?_take_of_lt hj']
     have hD2:=decode_any A3 k c3 (bs.take k) w6 hS (by omega)
     rw[hcut k hk]at hD2
     have hkc:k≤c3:=by omega
     clear hcut hS
     by_cases hneg:m<0
     case' pos=>
        have hd:decide (m<0)=true:=decide_eq_true hneg
        rw[if_pos hneg]at hkm
        have hkm2:=hkm
        simp only[Int.neg_tmod]at hkm2
        have HK:=Lib.hid hkm2
        clear hkm hkm2
        go_upto_region 14 with fail
        rw[←HK.out]
     case' neg=>
        have hd:decide (m<0)=false:=decide_eq_false hneg
        rw[if_neg hneg,Int.tmod_eq_emod_of_nonneg (by omega)]at hkm
        have HK:=Lib.hid hkm
        clear hkm
        go_upto_region 14 with fail
        rw[←HK.out]
     all_goals
        have hk0:(0:Int)≤(k:Int):=by omega
        have hk1:(k:Int)≤(c3:Int):=by omega
        have hk2:(k:Int)<(bs.length:Int):=by omega
        clear hd hneg HK
        go_wp2_with fail
        refine hD2.mono ?_
        rintro e w7 ⟨h7,rfl,-,-,-,hb7⟩
        have hb8:Below w7.heap.size w7 (w7.alloc (.cells ((decR (bs.take k)).vals h7) 38)):=by go_grown
        have hb9:=hb7.trans (hb8.mono hb7.size)
        have B7:=B6.below hb9 B6.lt
        have hX7:=hX6.trans (hb9.mono hX6.size)
        have hO7:=(hO6.below hb9).more hb9.size
        generalize decR (bs.take k)=d1 at*
        clear hb7 hb8 hb9 B6 hX6 hO6 hD2
        have hC1:=xcopy A3 bs.length c3 bs (w7.alloc (.cells (d1.vals h7) 38)) hO7 (by omega)
        go_wp2_with (guard_target=~ wpList _ _ _ _ _ _;refine wpList_store_at rfl 38 _ _ rfl w7.heap.size (d1.vals h7) (by kernel_rfl) (by kernel_rfl) rfl _ _ (by kernel_rfl) (by kernel_rfl) (by kernel_rfl) ?_)
        refine hC1.mono ?_
        rintro e w8 ⟨A8,c8,rfl,hq8,hm8,o8,hb8⟩
        have hbA:Below w8.heap.size w8 (w8.alloc (.cells #[.int .u8 (x.toNat:Int)] 5)):=by go_grown
        have o8':=o8.alloc (.cells #[.int .u8 (x.toNat:Int)] 5)
        have r8:=reads_new' w8 5 [.int .u8 (x.toNat:Int)] 1 rfl
        obtain⟨i0,hi0,hz0,hz1,hz2⟩:=info_partsW u8_info
        have hzw:(w7.alloc (.cells (d1.vals h7) 38)).heap.size≤w8.heap.size+1:=by have:=hb8.size;omega
        clear hC1
        go_wp2_with (first
         |(at_builtin
           refine wpList_append_any _ rfl (.tmp 64) (.tmp 66) _ rfl (w7.alloc (.cells (d1.vals h7) 38)).heap.size 5 i0 _ 1 1 Tryz.underlying48 hi0 hz0 hz1 hz2 rfl (by omega) (.slice A8 bs.length c8) _ (bytesV bs) (by rfl) o8' _ (some ⟨w8.heap.size,0,none⟩) 1 1 [.int .u8 (x.toNat:Int)] (by rfl)
             r8 (by intro u hu;simp only[List.mem_cons,List.not_mem_nil,or_false]at hu;subst hu;rfl) (by unfold maxLen;omega) (by omega) (by simpa using hzw) ?_
           intro v9 w9 o9 hg9 hat9
           obtain⟨A9,c9,rfl,hq9,hm9⟩:=own_form o9)
         |fail)
        have hb9:Below (w7.alloc (.cells (d1.vals h7) 38)).heap.size (w7.alloc (.cells (d1.vals h7) 38)) w9:=(hb8.trans (hbA.mono hb8.size)).grown hg9 (by have:=hbA.size;have:=hb8.size;omega) (fun q hq=>(o8'.lt q hq).1)
        have B9:=B7.below hb9 B7.lt
        have hX9:=hX7.trans (hb9.mono hX7.size)
        have hO9:=(hO7.below hb9).more hb9.size
        have o9':w9.ownsRow (w7.alloc (.cells (d1.vals h7) 38)).heap.size 5 1 (.slice A9 (bs.length+1) c9) (bs.length+1) (bytesV (bs++[x])):=by
         have e:bytesV (bs++[x])=bytesV bs++[.int .u8 (x.toNat:Int)]:=by show (bs++[x]).map _=_;rw[List.map_append];rfl
         rw[e];exact o9
        have hD3:=decode_any A9 (bs.length+1) c9 (bs++[x]) w9 (Reads.of_own o9') (by omega)
        rw[hmor]at hD3
        clear B7 hX7 hO7 hb9 hg9 hat9 o9 o9' o8 o8' r8 hbA hb8 hzw
        go_wp2_with fail
        refine hD3.mono ?_
        rintro e w10 ⟨h10,rfl,-,-,-,hb10⟩
        have hbB:Below w10.heap.size w10 (w10.alloc (.cells ((decR (bs++[x])).vals h10) 38)):=by go_grown
        have hb11:=hb10.trans (hbB.mono hb10.size)
        have B11:=B9.below hb11 B9.lt
        have hX11:=hX9.trans (hb11.mono hX9.size)
        have hO11:=(hO9.below hb11).more hb11.size
        generalize decR (bs++[x])=d2 at*
        clear hD3 B9 hX9 hO9 hb10 hbB hb11
        have hC2:=xcopy A3 bs.length c3 bs (w10.alloc (.cells (d2.vals h10) 38)) hO11 (by omega)
        go_wp2_with (guard_target=~ wpList _ _ _ _ _ _;refine wpList_store_at rfl 38 _ _ rfl w10.heap.size (d2.vals h10) (by kernel_rfl) (by kernel_rfl) rfl _ _ (by kernel_rfl) (by kernel_rfl) (by kernel_rfl) ?_)
        refine hC2.mono ?_
        rintro e w12 ⟨A12,c12,rfl,hq12,hm12,o12,hb12⟩
        have B12:=B11.below hb12 B11.lt
        have hX12:=hX11.trans (Below.mono (w:=w10.alloc (.cells (d2.vals h10) 38)) hb12 hX11.size)
        have hXB:=Lib.hid B11.lt
        clear hC2 B11 hX11 hO11 hb12
        obtain⟨g12,hA12⟩:∃g12,A12=some ⟨g12,0,none⟩:=by
         obtain⟨_,⟨e,h0⟩|⟨g12,cap,cur,e,_⟩⟩:=o12
         · omega
         · injection e with e;exact⟨g12,e⟩
        subst hA12
        obtain⟨a,ha⟩:∃a,bs[k]?=some a:=⟨_,List.getElem?_eq_getElem hk⟩
        have hz:=o12.cellAt k (by omega)
        have hz2:(bytesV bs)[k]?=some (.int .u8 (a.toNat:Int)):=by show (bs.map _)[k]?=_;rw[List.getElem?_map,ha];rfl
        rw[hz2]at hz
        have hf:=o12.frozenAt k
        have hxor:bits .xor .u8 (a.toNat:Int) (x.toNat:Int)=((a.toNat^^^x.toNat:Nat):Int):=u8_xor_nat _ _ a.toNat_lt x.toNat_lt
        obtain⟨o13,hg13⟩:=o12.stored k (.int .u8 ((a.toNat^^^x.toNat:Nat):Int))
        have o13':(w12.setCell ⟨g12,k,none⟩ (.int .u8 ((a.toNat^^^x.toNat:Nat):Int))).ownsRow (w10.alloc (.cells (d2.vals h10) 38)).heap.size 5 1 (.slice (some ⟨g12,0,none⟩) bs.length c12) bs.length (bytesV (bs.set k (a^^^x))):=by
         have e:bytesV (bs.set k (a^^^x))=(bytesV bs).set k (.int .u8 ((a.toNat^^^x.toNat:Nat):Int)):=by show (bs.set k _).map _=_;rw[List.map_set,UInt8.toNat_xor]
         rw[e];exact o13
        have hlt12:=(o12.lt g12 rfl).1
        have hD4:=decode_any (some ⟨g12,0,none⟩) bs.length c12 (bs.set k (a^^^x)) _ (Reads.of_own o13') (by omega)
        have hgw:w.heap.size<g12:=by have:=hXB.out;omega
        clear hz2 o13 hg13 o13' o12
        go_wp2_with fail
        refine hD4.mono ?_
        rintro e w14 ⟨h14,rfl,-,cp14,i14,hb14⟩
        have hbs:Below w.heap.size w (w12.setCell ⟨g12,k,none⟩ (.int .u8 ((a.toNat^^^x.toNat:Nat):Int))):=hX12.setCell (p:=⟨g12,k,none⟩) (by simp;omega) _
        have B13:=B12.far (p:=⟨g12,k,none⟩) (by simp;omega) (.int .u8 ((a.toNat^^^x.toNat:Nat):Int))
        have hbC:Below w14.heap.size w14 (w14.alloc (.cells ((decR (bs.set k (a^^^x))).vals h14) 38)):=by go_grown
        have hb15:=hb14.trans (hbC.mono hb14.size)
        have B15:=B13.below hb15 B13.lt
        have C15:Blk (w14.alloc (.cells ((decR (bs.set k (a^^^x))).vals h14) 38)) w14.heap.size 38 ((decR (bs.set k (a^^^x))).vals h14):=Blk.new _ _ _
        have hX15:=hbs.trans (hb15.mono hbs.size)
        have i15:=i14.below hbC
        have hsame:x≠0→decE (bs.set k (a^^^x))=0→recSame (decR (bs.set k (a^^^x))) r ((decR (bs.set k (a^^^x))).st.same r.st)=false:=fun hx h0=>by
         cases hq:recSame (decR (bs.set k (a^^^x))) r ((decR (bs.set k (a^^^x))).st.same r.st)
         · rfl
         · exact absurd (recSame_eq hq) (htrn _ (set_ne ha hx) h0)
        have h04:=decE_04 (bs.set k (a^^^x))
        have hR:=fun W (hW:Below w.heap.size w W) (j:RcIn W (decR (bs.set k (a^^^x))) h14)=>rec_anyS (decR (bs.set k (a^^^x))) r h14 h W j (i.below hW)
        generalize decR (bs.set k (a^^^x))=d3 at*
        generalize decE (bs.set k (a^^^x))=e3 at*
        clear hD4 hbs B12 B13 hX12 hb14 hbC hb15 i14 hz hf hxor htrn hmor
        by_cases hx0:x=0
        · have hx1:((x.toNat:Int)==0)=true:=by rw[hx0];rfl
          clear hR hsame hx0
          go_wp2_with (guard_target=~ wpList _ _ _ _ _ _;refine wpList_store_at rfl 38 _ _ rfl w14.heap.size (d3.vals h14) (by kernel_rfl) (by kernel_rfl) rfl _ _ (by kernel_rfl) (by kernel_rfl) (by kernel_rfl) ?_)
          refine(first2_any _).mono ?_
          rintro e w17 ⟨rfl,hb17⟩
          go_wp2
          go_ret
          exact⟨rfl,hX15.trans (hb17.mono hX15.size)⟩
        · have hx1:((x.toNat:Int)==0)=false:=by
           rw[beq_eq_false_iff_ne]
           intro hq
           apply hx0
           apply UInt8.toNat_inj.1
           show x.toNat=0
           omega
          rcases h04 with rfl|rfl
          · have hfalse:=hsame hx0 rfl
            have hR3:=hR (w14.alloc (.cells (d3.vals h14) 38)) hX15 i15
            rw[hfalse]at hR3
            clear hR hsame hfalse
            go_wp2_with (first
             |(guard_target=~ wpList _ _ _ _ _ _;refine wpList_store_at rfl 38 _ _ rfl w14.heap.size (d3.vals h14) (by kernel_rfl) (by kernel_rfl) rfl _ _ (by kernel_rfl) (by kernel_rfl) (by kernel_rfl) ?_)
             |(guard_target=~ wpList _ _ _ _ _ _;refine wpList_load_row_g (by kernel_rfl) 38 (.tmp 16) rfl w14.heap.size (by kernel_rfl) _ _ (0,0) _ C15 rfl rfl (by kernel_rfl) ?_)
             |(guard_target=~ wpList _ _ _ _ _ _;refine wpList_load_row_g (by kernel_rfl) 38 (.tmp 3) rfl w.heap.size (by kernel_rfl) _ _ (0,0) _ B15 rfl rfl (by kernel_rfl) ?_))
            refine hR3.mono ?_
            rintro e w16 ⟨rfl,hb16⟩
            have hX16:=hX15.trans (hb16.mono hX15.size)
            clear hR3 hb16
            go_wp2_with fail
            refine(first2_any _).mono ?_
            rintro e w17 ⟨rfl,hb17⟩
            go_wp2
            go_ret
            exact⟨rfl,hX16.trans (hb17.mono hX16.size)⟩
          · clear hR hsame
            go_wp2_with (guard_target=~ wpList _ _ _ _ _ _;refine wpList_store_at rfl 38 _ _ rfl w14.heap.size (d3.vals h14) (by kernel_rfl) (by kernel_rfl) rfl _ _ (by kernel_rfl) (by kernel_rfl) (by kernel_rfl) ?_)
            refine(first2_any _).mono ?_
            rintro e w17 ⟨rfl,hb17⟩
            go_wp2
            go_ret
            exact⟨rfl,hX15.trans (hb17.mono hX15.size)⟩
   · have hbE:(encE r==0)=false:=by simp[he]
     go_wp2_with fail
     refine(first2_any _).mono ?_
     rintro e w4 ⟨rfl,hb4⟩
     go_wp2
     go_ret
     exact⟨rfl,hX3.trans (hb4.mono hX3.size)⟩
 · have hd:decide (weighRec 20000 r≤20000)=false:=decide_eq_false hw
   rw[hd]
   clear hd hw
   go_wp2_with fail
   refine(first2_any _).mono ?_
   rintro e w3 ⟨rfl,hb3⟩
   go_wp2
   go_ret
   exact⟨rfl,hX2.trans (hb3.mono hX2.size)⟩
end Go.Proofs.YthdmanadhbpogaaGreat
