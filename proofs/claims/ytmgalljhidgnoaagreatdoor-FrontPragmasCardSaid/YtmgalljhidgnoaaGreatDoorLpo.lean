/-
 Proof.
-/
import Derived.Test.YtmgalljhidgnoaaGreatDoorLpn
import Derived.Test.YtmgalljhidgnoaaGreatDoorIst
open Nat renaming le_refl → vE, lt_irrefl → yd
open Int renaming ofNat → vJ
noncomputable section
namespace Go.Den
open Go.RowKit
set_option maxRecDepth 100000
abbrev kZ(F:FT)(i:Int)(v p:U):FT:=BS (Aq (Aq F 24 (.int .i64 i)) 25 v) (some 11) p
theorem tu{a:CF}{b:FT}{c:Int}{v:U}{d:H}{K:Fp}:Hk env a BL.BP [] PM BL.assign .root (OO BL.params [.int .i64 c,v] b) d K=Hp.Bu d Kw λp f=>CV 8 (.ptr p 0) v f λg=>K .normal (kZ b c v (.ptr p 0)) g:=by kernel_rfl
theorem Atu{a:CF}{b:FT}{c:Int}{v:U}{d p:P}{f:H}{l:P}{g:KV}:Hk env a BL.BP [] PM BL.body .root (kZ (Aq b 9 (.ptr d 0)) c v (.ptr p 0)) f (Ym l g)=
 Ac 7 (.ptr p 0) λh=>Z h f λi=>a (.func 41) [i] f λj k=>Ac 7 (.ptr p 0) λm=>BC m j k λn=>
  Z (.ptr d 0) n λo=>Z (.ptr d 0) n λq=>oK (Ag q n) λr s=>Ac 2 r λt=>Z t s λu=>A3 8 (.ptr p 0) s λw=>
   oK (AF env (env.ty Eo) [(0,w)] s) λx y=>oK (AE env 121 (λe c=>Ap 1 [(0,x)] y e c)) λh a=>
    Z (.ptr d 0) a λf=>BE f o<|Z (.ptr d 0) a λi=>BE i q<|Z t a λj=>BE j u<|
    oK (AB env .append [121,121] [u,h] a) λk m=>Z (.ptr d 0) m λn=>BE n o<|oK (Ag o m) λr s=>Ac 2 r λw=>BC w k s λc=>Ym l g .normal b c:=by kernel_rfl
theorem Bdd:PG PP env G BL=true:=by kernel_rfl
theorem byl(x y:U):Nat.beq (len [x,y]) (len BL.params)=true:=by kernel_rfl
theorem Cv{q:P}{o:Nat}{a:Prop}(b:a):BE (.ptr q o) (.ptr q o) a:=C2 (.inr (.inr (.inr (.inr (.inr (.inr ⟨q,o,rfl⟩)))))) b
theorem ji:Pure PP G h0 41 [.Af] .Af:=pure_run (by kernel_rfl)
theorem Aqs(a b c d e f g i:U)(h:H):AF env (env.ty Eo) [(0,.agg [a,b,c,d,e,f,g,i])] h=some (.agg [a,b,c,d,e,f,g,i,.Af],h):=by kernel_rfl
theorem Bdl{b:List U}(c:Gu b)(d:H):AF env (env.ty Eo) [(0,.agg b)] d=some (.agg (b++[.Af]),d):=by obtain⟨f,g,h,i,j,a,k,e,_⟩:=c.ex;subst e;exact Aqs _ _ _ _ _ _ _ _ _
theorem Bfo{b:List U}(c:Gu b)(d:H):AE env 121 (λt f=>Ap 1 [(0,.agg (b++[.Af]))] d t f)=some (.slice d.next 0 1 9 true,d.new (.row (Ai (b++[.Af]) 0 fH) 9 0 Eo true)):=by obtain⟨g,h,i,j,k,a,l,e,_⟩:=c.ex;subst e;exact hZ _ _ _ _ _ _ _ _ _ _
theorem Gu.c7{b:List U}(c:Gu b):b[7]'(by rw[c.l8];decide)=.Af:=by obtain⟨d,f,g,h,i,a,j,e,_⟩:=c.ex;subst e;rfl
theorem Gu.s7{b:List U}(c:Gu b):b.set 7 .Af=b:=by obtain⟨d,f,g,h,i,a,j,e,_⟩:=c.ex;subst e;rfl
structure Bk(hS h:H)(l pR pN:P)(F:FT)(T:List (List U)):Prop where
 lp:h.at l=.loop F BL .ready .normal
 l1:hS.next.nat≤l.nat
 l2:l.nat<h.next.nat
 fr:CE (fun c=>c=pR) hS h
 row:∃vt,AH h pR Mn [.ptr pN 0,.bool true,vt,.Af]∧AY Eo 9 hS.next.nat h vt T
theorem te{a b:H}{l c d f:P}{g:FT}{h:List (List U)}(i:Bk a b l c d g h)(j:g 9=.ptr f 0)(O7:AH a f 117 [.ptr c 0])(k:f.nat<a.next.nat)(m:c.nat<a.next.nat)(n:f≠c)(o:h.length≤1000000){r:List U}(s:Gu r){u:Int}{v:KV}(w:∀x,b.next.nat≤x.next.nat→Bk a x l c d g (h++[r++[.Af]])→v (.bool true) x):W1 (.yield l.nat) [.int .i64 u,.agg r] b v:=by
 have y:=i.l2;have o:=i.l1;have l8:=s.l8;have a0:=i.fr.1;obtain⟨a0,a1,a2⟩:=i.row;refine Pe mixed AO AJ ?_;unfold LR;rw[RJ l.nat l Nat.lt_two_pow_self,Nat.beq_refl];show Yd env W1 (PG PP env G) l [.int .i64 u,.agg r] b v;unfold Yd;rw[i.lp];show Bool.rec Av (Hk env W1 BL.BP [] PM BL.assign .root (OO BL.params [.int .i64 u,.agg r] g) b (Adl env W1 l BL v)) (An (PG PP env G BL) (Nat.beq (len [U.int .i64 u,.agg r]) (len BL.params)));rw[Bdd,byl];show Hk env W1 BL.BP [] PM BL.assign .root (OO BL.params [.int .i64 u,.agg r] g) b (Adl env W1 l BL v);rw[tu];refine newRow (e:=Ci) (cs:=Fs) rfl λa3 a4 a5 a6=>?_;refine a6.CV (o:=0) (ds:=r) (cs':=r) l8 (by decide) (by show 0+8≤8;decide) (by rw[show Fs.drop (0+8)=[] from rfl];simp) λa3 a6 f3 r3=>?_;have a7:AP b a3:=a4.Gr (vE _) a6 f3;have a4:a3.at l=.loop g BL .ready .normal:=by rw[a7.2 _ y];exact i.lp
 show PK (a3.at l) (λa8 a9 b0 b1=>Bool.rec Av (a3.Gv l (.loop a8 a9 .busy b1) (λx=>Hk env W1 BL.BP [] PM BL.body .root (kZ g u (.agg r) (.ptr b.next 0)) x (Ym l v))) (isReady b0));rw[a4];show a3.Gv l (.loop g BL .busy .normal) (λx=>Hk env W1 BL.BP [] PM BL.body .root (kZ g u (.agg r) (.ptr b.next 0)) x (Ym l v));have x:kZ g u (.agg r) (.ptr b.next 0)=kZ (Aq g 9 (.ptr f 0)) u (.agg r) (.ptr b.next 0):=by rw[JE j]
 rw[Gi,x,Atu];have u:∀{p:P},p.nat≠l.nat→p≠l:=λq e=>q (by rw[e]);have j:∀p,p≠l→(a3.put l (.loop g BL .busy .normal)).at p=a3.at p:=λp x=>AQ x;have a8:(a3.put l (.loop g BL .busy .normal)).at l=.loop g BL .busy .normal:=Bg _ _ _;have a9:(a3.put l (.loop g BL .busy .normal)).next=a3.next:=rfl;generalize a3.put l (.loop g BL .busy .normal)=h4 at j a8 a9 ⊢;have b1:a3.next.nat=b.next.nat+1:=by rw[a6];exact a5
 have b0:AH h4 b.next Ci r:=r3.of (j _ (u (by omega)));have a4:h4.at c=b.at c:=by rw[j _ (u (by omega)),a7.2 _ (by omega)]
 have a3:h4.at f=b.at f:=by rw[j _ (u (by omega)),a7.2 _ (by omega)]
 have a6:AH b f 117 [.ptr c 0]:=O7.of (i.fr.2 _ k n);rw[Ae];refine b0.Z (j:=7) (by omega) ?_;rw[s.c7];refine Ex ji ?_;rw[Ae];refine b0.BC (j:=7) (cs':=r) (by omega) rfl s.s7 λn a5 f5 r5=>?_;have b0:n.at l=.loop g BL .busy .normal:=by rw[f5 _ (λe=>by rw[e] at y;exact yd _ y)];exact a8
 have y:n.at c=b.at c:=by rw[f5 _ (λe=>by rw[e] at m;omega)];exact a4
 have a8:n.at f=b.at f:=by rw[f5 _ (λe=>by rw[e] at k;omega)];exact a3
 have g5:∀p,p.nat<b.next.nat→p≠l→n.at p=b.at p:=λp x a4=>by rw[f5 _ (λe=>by rw[e] at x;exact yd _ x),j _ a4,a7.2 _ x]
 have j:n.next.nat=b.next.nat+1:=by rw[a5,a9,b1]
 have j:AH n f 117 [.ptr c 0]:=a6.of a8;have a3:AH n c Mn [.ptr d 0,.bool true,a0,.Af]:=a1.of y;have y:AY Eo 9 a.next.nat n a0 h:=a2.frame (by omega) λp x _ t a z h e=>g5 p x λq=>by subst q;rw[i.lp] at e;cases e
 refine j.Z (j:=0) (by show 0<1;decide) ?_;refine j.Z (j:=0) (by show 0<1;decide) ?_;show oK (Ag (.ptr c 0) n) _;rw[Aj,Ad,Ae];refine a3.Z (j:=2) (by show 2<4;decide) ?_;refine r5.A3 (o:=0) (ds:=r) l8 (by rw[List.drop_zero,List.take_length]) (by omega) ?_;rw[Bdl s,Ad,Bfo s,Ad];have s:AP n (n.new (.row (Ai (r++[.Af]) 0 fH) 9 0 Eo true)):=.new;refine(j.ext s (by omega)).Z (j:=0) (by show 0<1;decide) ?_;refine Cv ?_;refine(j.ext s (by omega)).Z (j:=0) (by show 0<1;decide) ?_;refine Cv ?_;refine(a3.ext s (by omega)).Z (j:=2) (by show 2<4;decide) ?_;show BE a0 a0 _;rw[QO y.sl,iL];refine LM (ds:=r++[.Af]) (.inr y) (by rw[List.length_append,l8];rfl) Ade (ZT (by omega)) (by omega) λn s r k7=>?_;have y:=k7.1;have y:AH s f 117 [.ptr c 0]:=j.kpl k7 (by omega) k;refine y.Z (j:=0) (by show 0<1;decide) ?_;refine Cv ?_;show oK (Ag (.ptr c 0) s) _;rw[Aj,Ad,Ae];have f:AH s c Mn [.ptr d 0,.bool true,a0,.Af]:=a3.kpl k7 (by omega) m;refine f.BC (j:=2) (cs':=[.ptr d 0,.bool true,n,.Af]) (by show 2<4;decide) r.one rfl λj k f8 r8=>?_;have y:s.at l=.loop g BL .busy .normal:=by rw[k7.2 l (by omega) (.inr λt a z h e=>by rw[b0] at e;cases e)];exact b0
 have m:j.at l=.loop g BL .busy .normal:=by rw[f8 l λe=>by subst e;omega];exact y
 show PK (j.at l) _;rw[m];show Hp.Gv j l (.loop g BL .ready .normal) (λb=>v (.bool true) b);rw[Gi];have f9:∀p,p≠l→(j.put l (.loop g BL .ready .normal)).at p=j.at p:=λp x=>AQ x;have d:(j.put l (.loop g BL .ready .normal)).next=j.next:=rfl;have m:j.next=s.next:=k;refine w _ (by rw[d,m];omega) ⟨Bg _ _ _,o,by rw[d,m];omega,⟨by rw[d,m];omega,λp x b=>?_⟩,n,r8.of (f9 _ (u (by omega))),r.frame (by rw[d,m];exact vE _) λp x a4 t a z h e=>?_⟩
 · rw[f9 _ (u (by omega)),f8 _ b,k7.2 p (by omega) (.inl x),g5 p (by omega) (u (by omega)),i.fr.2 p x b]
 · have v:p≠l:=λq=>by subst q;rw[y] at e;cases e
   have g:p≠c:=λq=>by subst q;obtain⟨j,s,_⟩:=f;rw[e] at s;cases s
   rw[f9 p v,f8 p g]
def nI(m:Nat):Int:=if m=0 then .negSucc 0 else .ofNat (m-1)
theorem cy{m:Nat}(a:m≤1000000000){K:Int→Prop}(b:K (nI m)):fI (wrap .i64 (EU (vJ m) (vJ 1))) K:=by
 cases m with
 |zero=>rw[show wrap .i64 (EU (vJ 0) (vJ 1))=Int.negSucc 0 by kernel_rfl,BW];exact b
 |succ m=>refine fh (by omega) a ?_;unfold nI at b;rwa [if_neg (by omega)] at b
theorem rJ{a:H}{l b pN c d:P}{F:FT}{v:U}{f:List (List U)}(g:F 9=.ptr c 0)(O7:AH a c 117 [.ptr b 0])(h:c.nat<a.next.nat)(i:b.nat<a.next.nat)(j:c≠b)(k:AH a d 30 [v])(m:d.nat<a.next.nat)(p:d≠b)(r:CI 8 a v f)(s:∀q o n z t,v=.slice q o n z t→¬q=b)(u:∀w∈f,Gu w)(x:f.length≤1000000){y:KV}(a0:∀a1,Bk a a1 l b pN F (BG f.reverse)→y (.tuple []) a1):
    ∀(c n:Nat){w:H},c<n→c≤f.length→Bk a w l b pN F (BG (f.drop c).reverse)→(YM W1 y n).a1 (.func (.yield l.nat) [] []) (.ptr d 0) (nI c) w
  |_,0,_,a,_,_=>absurd a (Nat.not_lt_zero _)
  |0,n+1,w,_,_,t=>by refine uR ?_;unfold SJ;refine AR (by rfl) ?_;exact a0 w t
  |c+1,n+1,w,a,b,t=>by
    refine uR ?_;unfold SJ;have d:nI (c+1)=vJ c:=by unfold nI;rw[if_neg (by omega)];rfl
    rw[d,Gc,decide_eq_true (Nat.zero_le _)];refine By rfl ?_;have y:c<f.length:=b;have a:=u _ (List.getElem_mem y);refine(k.of (t.fr.2 _ m p)).Z (j:=0) (by show 0<1;decide) ?_;refine Cy ?_;have d:CI 8 w v f:=r.DV t.fr s;refine(d.rd y).elem y λq o _ _ b=>?_;refine b.A3 a.l8 ?_;show W1 (.yield l.nat) [.int .i64 (vJ c),.agg f[c]] w _;have d:(f.drop c).reverse=(f.drop (c+1)).reverse++[f[c]]:=by rw[List.drop_eq_getElem_cons y,List.reverse_cons]
    refine te t g O7 h i j (by rw[Gm,List.length_reverse,List.length_drop];omega) a λb w y=>?_;rw[AL];refine AR rfl ?_;refine cy (by omega) ?_;refine rJ g O7 h i j k m p r s u x a0 c n (by omega) (by omega) ?_;have:BG (f.drop c).reverse=BG (f.drop (c+1)).reverse++[f[c]++[.Af]]:=by rw[d];unfold BG;rw[List.map_append];rfl
    rw[this];exact y
theorem Bdo:RB env (.func 69)=true:=by kernel_rfl
theorem lJ{a:H}{v:U}(b:v=.Af∨∃c o n z t,v=.slice c o n z t){d:KV}(f:∀g p,AP a g→AH g p 30 [v]→a.next.nat≤p.nat→p.nat<g.next.nat→d (.func (.func 69) [] [.ptr p 0]) g):W1 (.func 40) [v] a d:=by
 refine w40 (n:=1) AJ (g40 ?_);unfold VI;have h:Hp.Bu a (rowOf 30 [v]) λi j=>d (.func (.func 69) [] [(.ptr i 0)]) j:=newRow (e:=30) (cs:=[v]) rfl λk l m q=>f k a.next l q (vE _) (by omega);rcases b with rfl|⟨c,o,n,z,t,rfl⟩
 · exact h
 · exact h
theorem UF{a:H}{b pN c d:P}{v:U}{f:List (List U)}(O7:AH a c 117 [.ptr b 0])(g:c.nat<a.next.nat)(h:b.nat<a.next.nat)(i:AH a b Mn [.ptr pN 0,.bool true,.Af,.Af])(j:AH a d 30 [v])(k:d.nat<a.next.nat)(m:CI 8 a v f)(r:∀q o n z s,v=.slice q o n z s→¬q=b)(u:∀w∈f,Gu w)(x:f.length≤1000000){K:AX→H→Prop}
 (y:∀s,CE (λw=>w=b) a s→(∃a0,AH s b Mn [.ptr pN 0,.bool true,a0,.Af]∧AY Eo 9 a.next.nat s a0 (BG f).reverse)→K .normal s):NP env W1 BL (.func (.func 69) [] [.ptr d 0]) (Aq (λ_=>.top) 9 (.ptr c 0)) a K:=by
 unfold NP;rw[Afq,Bdo];show Hp.Bu a (.loop (Aq (λ_=>.top) 9 (.ptr c 0)) BL .ready .normal) (λl b=>W1 (.func 69) [.func (.yield l.nat) [] [],.ptr d 0] b λ_ b=>qn l K b);refine BX ?_;have s:(a.new (.loop (Aq (λ_=>.top) 9 (.ptr c 0)) BL .ready .normal)).at a.next=.loop (Aq (λ_=>.top) 9 (.ptr c 0)) BL .ready .normal:=AS _ _;have d:AP a (a.new (.loop (Aq (λ_=>.top) 9 (.ptr c 0)) BL .ready .normal)):=.new;have b:(a.new (.loop (Aq (λ_=>.top) 9 (.ptr c 0)) BL .ready .normal)).next.nat=a.next.nat+1:=Bd;generalize a.new (.loop (Aq (λ_=>.top) 9 (.ptr c 0)) BL .ready .normal)=h5 at s d b ⊢;refine w69 (n:=f.length+2) AJ (g69 ?_);unfold Yf;refine(j.ext d k).Z (j:=0) (by show 0<1;decide) ?_;show Bz v _;rw[m.len];refine cy (by omega) ?_;refine rJ (pN:=pN) (F:=Aq (λ_=>.top) 9 (.ptr c 0)) rfl O7 g h (O7.ne i (by decide)) j k (j.ne i (by decide)) m r u x (λb a1=>?_) f.length _ (by omega) (vE _) ?_
 · show PK (b.at a.next) _;rw[a1.lp];show Hp.Gv b a.next (.loop (Aq (λ_=>.top) 9 (.ptr c 0)) BL .exhausted .normal) (λg=>K .normal g);rw[Gi];obtain⟨a0,j,k⟩:=a1.row;have ne:∀{p:P},p.nat<a.next.nat→p≠a.next:=λq e=>by subst e;exact yd _ q
   refine y _ ⟨by rw[Dc];exact a1.fr.1,λw m r=>by rw[AQ (ne m),a1.fr.2 w m r]⟩ ⟨a0,j.of (AQ (ne h)),?_⟩;have:(BG f).reverse=BG f.reverse:=by unfold BG;rw[List.map_reverse]
   rw[this];refine k.frame (by rw[Dc];exact vE _) λw _ _ t u z x e=>AQ λq=>?_;subst q;rw[a1.lp] at e;cases e
 · rw[List.drop_length];refine⟨s,vE _,by omega,d.DV,.Af,i.ext d h,.inl ⟨rfl,rfl⟩⟩
end Go.Den
