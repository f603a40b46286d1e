/- The walks of a coder that reads: records within a message, and a list of them. -/
import Derived.Test.YtcalkfgibflbnaaGreatBacj
import Derived.Test.YtcalkfgibflbnaaGreatBadd
namespace Go.Proofs.YtcalkfgibflbnaaGreat
set_option maxHeartbeats 4000000
set_option maxRecDepth 100000
set_option linter.unusedVariables false
open Go.RowKit Fl
attribute [local go_sem] dJ
theorem ag0:(Tryz.prog.info? 69).map (fun i=>(i.zero,i.size,i.bytes))=some (some (.agg jO),29,328):=ah
theorem ag1 (w:World) (k:ByteArray) (h:k.size<=1000000000000):∃c w',(convert 9 49 (.string k)).run Tryz.prog w=.ok (.slice (some ⟨w.heap.size,0,none⟩) k.size c) w'/\Below w.heap.size w w'/\Reads w' w'.heap.size 1 (some ⟨w.heap.size,0,none⟩) k.size (bytesV k.data.toList):=by
 refine⟨_,_,run_bytes_of_string (P:=Tryz.prog) w 9 49 5 k Tryz.underlying9 Tryz.underlying49 Tryz.underlying5,(aC).drew.alloc (Nat.le_refl _) _,?_⟩;refine⟨by rw[bytesV,List.length_map,Array.length_toList,Nat.mul_one];rfl,fun _=>⟨_,rfl,aA,fun j u hj=>?_⟩⟩;rw[Addr.add_mid,Nat.zero_add];refine(cell_of_row _ w.drew.heap.size j _ _ _ (heap_alloc_new w.drew _)).trans ?_;obtain⟨hlt,he⟩:=List.getElem?_eq_some_iff.1 hj;have hlt2:j<k.data.size:=by simpa [bytesV] using hlt
 rw[<-he];unfold bytesRow;rw[Array.getElem?_append_left (by simpa using hlt2)];simp[bytesV];exact⟨_,Array.getElem?_eq_getElem hlt2,rfl⟩
theorem ag2 (w:World) (g:Nat) (A:Option Addr) (n c:Nat) (l:List UInt8) (s:RS) (gc b:Nat) (t:TypeId) (cs:Array Value) (i:Nat) (h:CR w g A n c l s gc) (hs:s.e=0) (D:lJ w A n g gc b t cs i (jO).toList):
 Calls Tryz.prog 87 #[.pointer (some ⟨gc,0,none⟩),.pointer (some ⟨b,i,none⟩)] w (Ac eX 29 w g A n c l gc b t cs i (qX l s)):=by
 have c0:=cl (h.blk.cell 0);have gl:=h.rd.blk.lt;have bl:=D.blk.lt;have fx:=h.fix D;have hib:i+29<=cs.size:=(Array.getElem?_eq_some_iff.1 (D.has 28 _ rfl)).1;have hX:Below w.heap.size w (w.alloc (.cells #[.string ⟨#[]⟩] 9)):=aJ;have bS:aj (w.alloc (.cells #[.string ⟨#[]⟩] 9)) w.heap.size 9 #[.string ⟨#[]⟩]:=aj.new _ _ _;have DS:lJ (w.alloc (.cells #[.string ⟨#[]⟩] 9)) A n g gc w.heap.size 9 #[.string ⟨#[]⟩] 0 [.string ⟨#[]⟩]:=⟨bS,IB rfl,byOmega,by have:=fx.cl;omega,fun a ha hn=>by have:=fx.al a ha hn;omega⟩;have hT:=DV _ g A n c l s gc w.heap.size 9 #[.string ⟨#[]⟩] 0 (h.below hX) hs DS;have HR:=au (show qX l s=if (dZ l s 262144).2.e≠0 then (ql,(dZ l s 262144).2) else if sW (dZ l s 262144).1≠0 then (ql,⟨(dZ l s 262144).2.at_,4,0⟩) else (rQ (dZ l s 262144).1,(dZ l s 262144).2) from rfl);have htl:=Me l s 262144;have hsm:=h.rd.small;have hll:=h.rd.len;generalize qX l s=Y at*;have Ws:iF l s=(⟨(dZ l s 262144).1.toArray⟩,(dZ l s 262144).2):=rfl;rw[Ws]at hT;generalize dZ l s 262144=tx at*;obtain⟨tl,s1⟩:=tx;have k1:=D.blk.below hX bl;have hDD:=fun w2 cc W h h2=>afC (some ⟨W,0,none⟩) (ByteArray.size ⟨tl.toArray⟩) cc tl w2 h h2
 generalize sW tl=er at*;generalize rQ tl=r at*;clear h bS DS Ws;go_enter Tryz.func87,Tryz.ntmps87;go_wp2_with fail;refine hT.mono ?_;rintro e w1 ⟨h1,t1,⟨e1,rfl,vs,l1,b1,hv,-⟩|⟨e1,rfl,cs1,l1,b1⟩⟩;all_goals
  have EI:aW w w1 g b:=(aW.eU g b hX).beside t1 (Nat.le_refl _);have k2:aj w1 b t cs:=(t1.block b (Nat.lt_of_lt_of_le bl hX.size) D.ng byOmega).trans k1
 rotate_left
 · go_wp2;have hY:Y.2.e≠0:=(by rw[HR.out,if_pos e1];exact e1);exact⟨rfl,.inr ⟨hY,rfl,EI,cs,rfl,k2⟩⟩
 subst hv;have b2:aj w1 w.heap.size 9 #[.string ⟨tl.toArray⟩]:=b1;have z2:=cl (b2.cell 0);obtain⟨cc,w2,hcv,hb2,hr2⟩:=ag1 w1 ⟨tl.toArray⟩ (by show tl.toArray.size<=_;rw[List.size_toArray];omega);have hD:=hDD w2 cc w1.heap.size hr2 (by show tl.toArray.size<=_;rw[List.size_toArray];omega);have Wu:=EI.trans (aW.eU g b hb2);have k3:=k2.below hb2 k2.lt;have h2:=h1.below hb2;have HZ:=au (And.intro hX.size (And.intro t1.size hb2.size));clear t1 b1 b2 hb2 hr2 hT k1 k2 EI h1 hX;go_wp2_with fail;refine hD.mono ?_;rintro e w3 ⟨hd,he,hlo,hb3⟩;replace he:e=.returned (.tuple #[.agg (r.vals hd),.int .i64 er]):=he;obtain⟨vs,hvs⟩:∃vs:Array Value,vs=r.vals hd:=⟨_,rfl⟩;rw[<-hvs]at he;subst he;have HI:=au (show (Tryz.prog.info? 69).map (·.size)=some vs.size by rw[hvs];kernel_rfl);have HS:=au (show jO.size=vs.size by rw[hvs];rfl);have HO:=au (show vs.all (·.oneCell')=true by rw[hvs];kernel_rfl);have HV:=au hvs;clear hvs;have Wv:=Wu.trans (aW.eU g b hb3);have k4:=k3.below hb3 k3.lt;have h3:=h2.below hb3;have hA3:Below w3.heap.size w3 (w3.alloc (.cells vs 69)):=aJ;have b4:aj (w3.alloc (.cells vs 69)) w3.heap.size 69 vs:=aj.new _ _ _;have Wx:=Wv.trans (aW.eU g b hA3);have k5:=k4.below hA3 k4.lt;have h4:=h3.below hA3;have HL:=au (jC.on hlo (fun k _ hk=>hA3.block k hk) hA3.size (Nat.le_refl _));have HZ3:=au (And.intro hb3.size hA3.size);clear hD hDD Wu k3 h2 Wv k4 h3 hlo hb3;by_cases hE:er=0
 rotate_left
 · have hne:(er !=0)=true:=(by simp[hE]);go_wp2_with (guard_target=~ wpList _ _ _ _ _ _;refine iO rfl 69 _ _ rfl w3.heap.size vs rfl rfl rfl _ _ HI.out HS.out HO.out ?_);exact⟨rfl,.inr ⟨by rw[HR.out,if_neg (by simpa using e1),if_pos hE];exact(by decide:(4:Int)≠0),rfl,Wx,cs,rfl,k5⟩⟩
 have hY:Y=(r,s1):=by rw[HR.out,if_neg (by simpa using e1),if_neg (by simpa using hE)]
 subst hY;rw[hE];have ht:(w3.alloc (.cells vs 69)).there b i vs.size:=by rw[<-HS.out];exact k5.there i 29 hib
 go_wp2_with (first
  |(guard_target=~ wpList _ _ _ _ _ _;refine iO rfl 69 _ _ rfl w3.heap.size vs rfl rfl rfl _ _ HI.out HS.out HO.out ?_)
  |(guard_target=~ wpList _ _ _ _ _ _;refine wpList_load_row rfl 69 _ rfl w3.heap.size rfl _ _ (0,0) _ b4 rfl rfl HI.out ?_)
  |(guard_target=~ wpList _ _ _ _ _ _;refine wpList_store_mid rfl 69 _ _ rfl b i vs rfl rfl ht HI.out HO.out ?_
    obtain⟨W6,dM⟩:∃W6:World,W6=(w3.alloc (.cells vs 69)).setCells b i vs.toList:=⟨_,rfl⟩;rw[<-dM];have Wy:=au dM;clear dM))
 go_end0
 have G8:=FD b vs.toList (w3.alloc (.cells vs 69)) i;have k6:=k5.puts vs.toList _ _ i;have h6:=h4.laid G8 D.ng D.nc D.ap;have hsz:(W6).heap.size=(w3.alloc (.cells vs 69)).heap.size:=by rw[Wy.out];exact setCells_size _ _ _
 rw[<-Wy.out]at G8 k6 h6;have hlo:=jC.on (lo:=w.heap.size) HL.out (fun k h1 h2=>G8.block k h2 (by intro e;injection e with e;have:=HZ.out;have:=HZ3.out;omega)) G8.size (by have:=HZ.out;omega);exact .inl ⟨h6,Wx.trans (aW.right G8 g),e1,rfl,_,by rw[Array.length_toList,<-HS.out];rfl,k6,⟨hd,by rw[HV.out],hlo.1,hlo.2.1,hlo.2.2⟩⟩
theorem ag3 (w:World) (g:Nat) (A:Option Addr) (n c:Nat) (l:List UInt8) (s:RS) (gc bx b:Nat) (t:TypeId) (cs:Array Value) (i:Nat) (h:CR w g A n c l s gc) (hs:s.e=0) (D:lJ w A n g gc b t cs i (jO).toList) (kx:aj w bx 84 #[.pointer (some ⟨gc,0,none⟩)]):
 Calls Tryz.prog 86 #[.pointer (some ⟨b,i,none⟩),.pointer (some ⟨bx,0,none⟩)] w (Ac eX 29 w g A n c l gc b t cs i (qX l s)):=by
 have y0:=cl (kx.cell 0);have hC:=ag2 w g A n c l s gc b t cs i h hs D;clear D h;go_enter Tryz.func86,Tryz.ntmps86;go_wp2_with fail;refine hC.mono ?_;rintro e w1 (⟨h1,t1,e1,rfl,h4⟩|⟨e1,rfl,h3⟩)
 · go_wp2
   go_end0
   exact .inl ⟨h1,t1,e1,rfl,h4⟩
 · go_wp2;exact⟨rfl,.inr ⟨e1,rfl,h3⟩⟩
theorem ag4 (w:World) (g:Nat) (A:Option Addr) (n c:Nat) (l:List UInt8) (s:RS) (gc bx b:Nat) (t:TypeId) (cs:Array Value) (i:Nat) (h:CR w g A n c l s gc) (hs:s.e=0) (D:lJ w A n g gc b t cs i [.slice none 0 0]) (kx:aj w bx 84 #[.pointer (some ⟨gc,0,none⟩)]) (hx1:bx≠g) (hx2:bx≠b) (WC:n<=100000000):
 Calls Tryz.prog 85 #[.pointer (some ⟨gc,0,none⟩),.pointer (some ⟨b,i,none⟩),.func (.func 86) #[] #[.pointer (some ⟨bx,0,none⟩)]] w (Ac (jl eX 29) 1 w g A n c l gc b t cs i (dn qX l s)):=by
 obtain⟨i0,hi0,hz0,hz1,hz2⟩:=info_parts ag0;have fx:=h.fix D;have hib:i<cs.size:=(Array.getElem?_eq_some_iff.1 (D.has 0 _ rfl)).1;have c0:=cl (h.blk.cell 0);have c1:=cl (h.blk.cell 1);have z0:w.cell? ⟨b,i,none⟩=some (.slice none 0 0):=D.at0 rfl;have hL:=xZ g A n c l s w.drew (h.below (aC).drew).rd;have hC:=fun q=>xY g A n c l s (bI l s:Int) (w.drewN q) (h.below (bD q)).rd
 have hkn:=wW l s (bI l s:Int) 3;have hsm:=h.rd.small;have hlf:bI l s<=n:=by rw[<-h.rd.len];unfold bI;split<;>omega
 have HR:=au (show dn qX l s=iG qX l (aX l s (bI l s:Int) 3).1.toNat (aX l s (bI l s:Int) 3).2 from rfl);have HH:=au h;generalize dn qX l s=res at*;generalize aX l s (bI l s:Int) 3=x at*;obtain⟨xn,s1⟩:=x;obtain⟨N,rfl⟩:∃N:Nat,xn=(N:Int):=⟨xn.toNat,by have:=hkn.2.1;omega⟩;have hN:N<=n:=by have:=hkn.2.2 byOmega;simp only at this;omega
 clear hkn hlf;go_enter Tryz.func85,Tryz.ntmps85;go_wp2_with fail
 go_region_held3 (fun w'=>w'.cell? ⟨gc,1,none⟩=some (.pointer (some ⟨g,0,none⟩)))
  (first|exact c1|exact c1')
  (first
    |((with_reducible refine hL.mono ?_);rintro e w1 ⟨rfl,q,rfl⟩)
    |((with_reducible refine(hC _).mono ?_);rintro e w2 ⟨rfl,hrd,hg⟩;have c1':w2.cell? ⟨gc,1,none⟩=some (.pointer (some ⟨g,0,none⟩)):=((h.below (bD _)).blk.grown hg (by intro e;exact h.ne (by injection e))).cell 1))
 have hg2:w.grownBy w2 (some g):=(below_grown (bD _) _).trans hg;have h2:CR w2 g A n c l s1 gc:=HH.out.read hrd hg2;have k2:aj w2 b t cs:=D.blk.grown hg2 (by intro e;exact D.ng (by injection e));have t2:aW w w2 g b:=aW.left hg2 b;clear hg hg2 hrd hL hC c1' c1 h c0 z0;go_wp2_with fail;refine(sN w2 g A n c l s1 gc h2).mono ?_;rintro e w3 ⟨⟨q3,rfl⟩,⟨he,rfl⟩|⟨he,rfl⟩⟩
 rotate_left
 · have hQ:Below w2.heap.size w2 (w2.drewN q3):=bD _;go_wp2;exact⟨rfl,dW.m (dW.bad (s':=s1) (by rw[HR.out];exact congrArg Prod.snd (sJ _ _ _ _ he)) he (h2.below hQ) (t2.trans (aW.eU g b hQ)) rfl (k2.below hQ k2.lt))⟩
 have hQ:Below w2.heap.size w2 (w2.drewN q3):=bD _;have k3:=k2.below hQ k2.lt;have h3:=h2.below hQ;have t3:=t2.trans (aW.eU g b hQ);have z3:(w2.drewN q3).cell? ⟨b,i,none⟩=some (.slice none 0 0):=(k3.cell i).trans (D.has 0 _ rfl);have f3:=k3.frozen i;have hgs:=jJ (w2.drewN q3) b i (.slice none 0 0);have h4:=h3.laid hgs fx.ng fx.nc fx.ap;have t4:=t3.trans (aW.right hgs g);have k4:aj _ b t (put cs i [.slice none 0 0]):=k3.fB i (.slice none 0 0);have hst:=qj.start (R:=eX) (E:=69) (size:=29) (f:=qX) (N:=N) h4 he k4 t4;clear k3 h3 t3 hgs h4 t4 k4 k2 h2 t2 hQ D;go_wp2_with fail
 go_loopw [39] (fun iv wr=>yj eX 69 29 qX w g A n c l gc b t cs i N s1 iv wr) (fun iv _=>N-(intOf iv).toNat)
 case atStart=>exact⟨0,_,_,_,rfl,hst⟩
 case round=>
  clear hst z3 f3;obtain⟨k,L,sk,v,rfl,hI⟩:=hrel;by_cases hlt:k<N
  · have hd1:decide ((k:Int)<(N:Int))=true:=ay;have hk0:(0:Int)<=(k:Int):=byOmega;have hk1:(k:Int)<((k+1:Nat):Int):=byOmega;have d0:=cl (hI.cr.blk.cell 0);have y0:wr.cell? ⟨b,i,none⟩=some v:=(hI.blk.cell i).trans (ug [v] cs i 0 v rfl ay);have yF:=hI.blk.lt;have hlen:=hI.len;have hzz:=hI.two.size;obtain⟨Av,qv,rfl,ni,wV⟩:=Single.form hI.row;rw[hlen]at ni y0 hI;have HI:=au hI;have HLV:=au hI.row.1.lt;have AP:Below wr.heap.size wr (wr.alloc (.cells #[.int .i64 0,.int .i64 0,.int .i64 0,.int .i64 0,.int .i64 0,.int .i64 0,.int .i64 0,.int .i64 0,.int .i64 0,.int .i64 0,.bool false,.int .i64 0,.float .f64 0,.slice none 0 0,.slice none 0 0,.slice none 0 0,.slice none 0 0,.int .i64 0,.int .i64 0,.float .f64 0,.float .f64 0,.int .i64 0,.int .i64 0,.int .i64 0,.int .i64 0,.int .i64 0,.int .i64 0,.slice none 0 0,.slice none 0 0] 69)):=aJ;obtain⟨Z,hZ⟩:∃Z:Array Value,Z=#[.int .i64 0,.int .i64 0,.int .i64 0,.int .i64 0,.int .i64 0,.int .i64 0,.int .i64 0,.int .i64 0,.int .i64 0,.int .i64 0,.bool false,.int .i64 0,.float .f64 0,.slice none 0 0,.slice none 0 0,.slice none 0 0,.slice none 0 0,.int .i64 0,.int .i64 0,.float .f64 0,.float .f64 0,.int .i64 0,.int .i64 0,.int .i64 0,.int .i64 0,.int .i64 0,.int .i64 0,.slice none 0 0,.slice none 0 0]:=⟨_,rfl⟩;have kZ:aj (wr.alloc (.cells #[.int .i64 0,.int .i64 0,.int .i64 0,.int .i64 0,.int .i64 0,.int .i64 0,.int .i64 0,.int .i64 0,.int .i64 0,.int .i64 0,.bool false,.int .i64 0,.float .f64 0,.slice none 0 0,.slice none 0 0,.slice none 0 0,.slice none 0 0,.int .i64 0,.int .i64 0,.float .f64 0,.float .f64 0,.int .i64 0,.int .i64 0,.int .i64 0,.int .i64 0,.int .i64 0,.int .i64 0,.slice none 0 0,.slice none 0 0] 69)) wr.heap.size 69 Z:=hZ▸aj.new _ _ _;have OD:Z.size=29:=(by rw[hZ];rfl);have hone:∀u∈Z.toList,u.oneCell'=true:=by
        have:Z.toList.all (·.oneCell')=true:=(by rw[hZ];kernel_rfl);exact List.all_eq_true.1 this
    have HZ:=au (show Z.toList=jO.toList from by rw[hZ]);have hfo:Array.foldl (fun (cs:Array Value) (x:Value×Nat)=>cs.setIfInBounds x.snd x.fst) #[.int .i64 0,.int .i64 0,.int .i64 0,.int .i64 0,.int .i64 0,.int .i64 0,.int .i64 0,.int .i64 0,.int .i64 0,.int .i64 0,.bool false,.int .i64 0,.float .f64 0,.slice none 0 0,.slice none 0 0,.slice none 0 0,.slice none 0 0,.int .i64 0,.int .i64 0,.float .f64 0,.float .f64 0,.int .i64 0,.int .i64 0,.int .i64 0,.int .i64 0,.int .i64 0,.int .i64 0,.slice none 0 0,.slice none 0 0] Z.zipIdx 0 29=Z:=(by rw[hZ];kernel_rfl);have hin:(Tryz.prog.info? 69).map (·.size)=some Z.size:=(by rw[OD];kernel_rfl);go_upto_region 11 with fail;generalize (wr.alloc (.cells #[.int .i64 0,.int .i64 0,.int .i64 0,.int .i64 0,.int .i64 0,.int .i64 0,.int .i64 0,.int .i64 0,.int .i64 0,.int .i64 0,.bool false,.int .i64 0,.float .f64 0,.slice none 0 0,.slice none 0 0,.slice none 0 0,.slice none 0 0,.int .i64 0,.int .i64 0,.float .f64 0,.float .f64 0,.int .i64 0,.int .i64 0,.int .i64 0,.int .i64 0,.int .i64 0,.int .i64 0,.slice none 0 0,.slice none 0 0] 69))=W1 at*;clear hZ;have yb:=up y0 AP yF;have kZ1:aj W1.drew wr.heap.size 69 Z:=kZ;have hX1:Below wr.heap.size wr W1.drew:=AP.drew;replace yb:W1.drew.cell? ⟨b,i,none⟩=some (.slice Av k qv):=yb;have vY:=AP.size;refine wp_region_held_drew (S:=fun W'=>aj W' wr.heap.size 69 Z) ah kZ1 (fun hHeld=>?_);clear kZ AP y0 d0;generalize W1.drew=W2 at*;have ajz:=hX1.size;have hX:Below wr.heap.size wr (W2.alloc (.cells Z 69)):=hX1.alloc hX1.size _;obtain⟨xs,hown0,hrd⟩:=hI.round eX.kept eX.mn fx hlt hib (z:=Z.toList) (by rw[Array.length_toList];exact OD) hX;have pJ:=au hrd;have dF:=nK W2 69 Z.toList 29 (by rw[Array.length_toList];exact OD);have yb2:(W2.alloc (.cells Z 69)).cell? ⟨b,i,none⟩=some (.slice Av k qv):=((Below.refl W2.heap.size W2).alloc (Nat.le_refl _) _|>.cell (p:=⟨b,i,none⟩) (by have:=hX1.size;show b<_;omega)).trans yb;clear hrd hI;rw[hlen]at hown0;refine t0 0 47 ?_;go_frame;refine t0 1 48 ?_;go_frame;refine tc 2 49 ?_;go_frame;refine tl 4 51 rfl (yZ ah 69 _ rfl wr.heap.size rfl 69 Z _ (fun _ h=>h) Tryz.underlying69 rfl hin) ?_;go_frame;refine wpAnyH_ready (rs:=[3,5]) ah aA (AllReadyH.cons (o:=⟨some 50,_,_,_,_,_⟩) rfl (fun K1 hK=>?_) (AllReadyH.cons (o:=⟨some 52,_,_,_,_,_⟩) rfl (fun K1 hK=>?_) AllReadyH.nil))
    case' refine_1=>
        go_simp;refine hK.out _ _ hHeld (fun hHeld=>?_);clear hK K1
        try go_frame
        refine tr 5 (o:=⟨some 52,_,_,_,_,_⟩) rfl fun K1 hK=>?_
        go_simp;refine hK.out _ _ (hHeld.alloc _) (fun hHeld=>?_);clear hK K1
        try go_frame
    case' refine_2=>
        go_simp;refine hK.out _ _ (hHeld.alloc _) (fun hHeld=>?_);clear hK K1
        try go_frame
        refine tr 3 (o:=⟨some 50,_,_,_,_,_⟩) rfl fun K1 hK=>?_
        go_simp;refine hK.out _ _ hHeld (fun hHeld=>?_);clear hK K1
        try go_frame
    all_goals
        refine tr 6 (o:=⟨some 53,_,_,_,_,_⟩) rfl fun K1 hK=>?_
        refine wG _ rfl _ _ _ rfl w.heap.size 69 i0 _ 29 328 Tryz.underlying32 hi0 hz0 hz1 hz2 rfl byOmega (.slice Av k qv) _ xs aI hown0 _ (some ⟨W2.heap.size,0,none⟩) 1 1 Z.toList aI dF hone dX byOmega (by rw[World.size_alloc];omega) ?_;intro v' w5 hown5 hg5 pK;obtain⟨y5,f5,rb,cap,cur,rfl,y6,h6,D6,t6,hfin⟩:=pJ.out v' w5 (by rw[hlen];exact hown5) hg5 pK;have HF:=au hfin;clear hfin;have WE:aj w5 wr.heap.size 69 Z:=(show aj (W2.alloc (.cells Z 69)) wr.heap.size 69 Z from hHeld).grown hg5 (fun e=>by have:=(HLV.out _ e.symm).2;omega);refine hK.out _ _ WE (fun hHeld=>?_);clear hK K1
        try go_frame
        refine tc 7 54 ?_;go_frame;refine tr 8 (o:=⟨none,_,_,_,_,_⟩) rfl fun K1 hK=>?_
        go_simp;refine hK.out _ _ (WE.far (p:=⟨b,i,none⟩) (by simp only;omega) _) (fun hHeld=>?_);clear hK K1
        try go_frame
        refine td ?_;clear hHeld;rw[HZ.out]at D6;go_wp2_with fail;refine(ag3 _ g A n c l sk gc bx rb _ cur (k*29) h6 HI.out.e D6 ((t6.block bx kx.lt hx1 hx2).trans kx)).mono ?_;intro e w7 hP;rcases HF.out e w7 hP with ⟨rfl,pO⟩|⟨rfl,hB⟩
        · go_wp2_with fail;go_roundw
          case rel=>exact⟨k+1,_,_,_,by go_num,pO⟩
          case measure=>simp[intOf];omega
        · go_wp2;exact⟨rfl,by rw[HR.out];exact hB.m⟩
  · have hd1:decide ((k:Int)<(N:Int))=false:=ay;go_wp2_with fail
    go_end0
    rw[HR.out];exact(hI.done eX.mn byOmega hlt).m
