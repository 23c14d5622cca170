/-
 Proof.
-/
import Derived.Test.YtcnmehbkpaoolaaGreatDoorRunD
import Derived.KernelRfl
namespace Go.Den
set_option maxRecDepth 100000
variable{c:CF}{k:KV}{n:Nat}{h:H}
theorem g26{v_0:AV}(hg:Amr c k (r26 c k n) v_0 h):f26 (r26 c k (n+1)) 0 (Ab [v_0]) h:=hg
theorem g49{b_1:Bool}{v_0:AV}(hg:Amh c k (r49 c k n) v_0 b_1 h):f49 (r49 c k (n+1)) 0 (Ab [v_0,.bool b_1]) h:=hg
theorem Bc0{x0 x1:AV}{x2:Bool}(hg:Amg c k (r49 c k n) x0 x1 x2 h):(r49 c k (n+1)).a1 x0 x1 x2 h:=hg
theorem Bcz{x0 x1 x2:AV}{x3 x4:Bool}(hg:Amf c k (r49 c k n) x0 x1 x2 x3 x4 h):(r49 c k (n+1)).a2 x0 x1 x2 x3 x4 h:=hg
theorem g59{l_0 c_0:Nat}(hg:Al8 c k (r59 c k n) l_0 c_0 h):f59 (r59 c k (n+1)) 0 (Ab [.str l_0 c_0]) h:=hg
theorem Ay8{x0 x1:Nat}{x2:AV}{x3 x4:Nat}(hg:Agx c k (r59 c k n) x0 x1 x2 x3 x4 h):(r59 c k (n+1)).a1 x0 x1 x2 x3 x4 h:=hg
theorem Ay7  (hg:Agw c k (r59 c k n)  h):(r59 c k (n+1)).a2  h:=hg
theorem Bcs{x0 x1:Nat}{x2:AV}{x3 x4:Nat}{x5 x6:Int}(hg:Al7 c k (r59 c k n) x0 x1 x2 x3 x4 x5 x6 h):(r59 c k (n+1)).a3 x0 x1 x2 x3 x4 x5 x6 h:=hg
theorem g60{l_0 c_0:Nat}(hg:Al6 c k (r60 c k n) l_0 c_0 h):f60 (r60 c k (n+1)) 0 (Ab [.str l_0 c_0]) h:=hg
theorem Bcr{x0 x1:Nat}{x2:AV}{x3 x4:Int}(hg:Al5 c k (r60 c k n) x0 x1 x2 x3 x4 h):(r60 c k (n+1)).a1 x0 x1 x2 x3 x4 h:=hg
theorem g61{l_1 c_1:Nat}{v_0:AV}(hg:Al4 c k (r61 c k n) v_0 l_1 c_1 h):f61 (r61 c k (n+1)) 0 (Ab [v_0,.str l_1 c_1]) h:=hg
theorem g63{v_0:AV}(hg:Al3 c k (r63 c k n) v_0 h):f63 (r63 c k (n+1)) 0 (Ab [v_0]) h:=hg
theorem g64{l_0 c_0:Nat}(hg:Al2 c k (r64 c k n) l_0 c_0 h):f64 (r64 c k (n+1)) 0 (Ab [.str l_0 c_0]) h:=hg
theorem Bcq{x0:AV}{x1 x2:Nat}{x3 x4:Bool}{x5:Int}{x6 x7:Nat}(hg:Al1 c k (r64 c k n) x0 x1 x2 x3 x4 x5 x6 x7 h):(r64 c k (n+1)).a1 x0 x1 x2 x3 x4 x5 x6 x7 h:=hg
theorem g66{l_0 c_0:Nat}(hg:Al0 c k (r66 c k n) l_0 c_0 h):f66 (r66 c k (n+1)) 0 (Ab [.str l_0 c_0]) h:=hg
theorem Bcp{x0:AV}{x1 x2:Nat}{x3 x4:Nat}{x5 x6 x7:Int}(hg:Alz c k (r66 c k n) x0 x1 x2 x3 x4 x5 x6 x7 h):(r66 c k (n+1)).a1 x0 x1 x2 x3 x4 x5 x6 x7 h:=hg
theorem Bco{x0:AV}{x1 x2:Nat}{x3:Int}(hg:Aly c k (r66 c k n) x0 x1 x2 x3 h):(r66 c k (n+1)).a2 x0 x1 x2 x3 h:=hg
theorem g87{n_1:Int}{b_2:Bool}{v_0:AV}(hg:Alk c k (r87 c k n) v_0 n_1 b_2 h):f87 (r87 c k (n+1)) 0 (Ab [v_0,.int .i64 n_1,.bool b_2]) h:=hg
theorem Ay5{x0:AV}{x1:Int}{x2:Bool}{x3 x4:AV}(hg:Agu c k (r87 c k n) x0 x1 x2 x3 x4 h):(r87 c k (n+1)).a1 x0 x1 x2 x3 x4 h:=hg
theorem g88{l_1 c_1:Nat}{v_0:AV}(hg:Alj c k (r88 c k n) v_0 l_1 c_1 h):f88 (r88 c k (n+1)) 0 (Ab [v_0,.str l_1 c_1]) h:=hg
theorem g93{l_1 c_1:Nat}{v_0:AV}(hg:Alf c k (r93 c k n) v_0 l_1 c_1 h):f93 (r93 c k (n+1)) 0 (Ab [v_0,.str l_1 c_1]) h:=hg
theorem Bkd{n_1:Int}{v_0:AV}(hg:Aeu c k (Ars c k n) v_0 n_1 h):f107 (Ars c k (n+1)) 0 (Ab [v_0,.int .u8 n_1]) h:=hg
theorem Bkc{l_0 c_0:Nat}(hg:Aet c k (Yz c k n) l_0 c_0 h):f108 (Yz c k (n+1)) 0 (Ab [.str l_0 c_0]) h:=hg
theorem A5h{x0 x1 x2:Int}{x3:AV}(hg:Aes c k (Yz c k n) x0 x1 x2 x3 h):(Yz c k (n+1)).a1 x0 x1 x2 x3 h:=hg
theorem A5g{x0 x1:Nat}{x2 x3 x4:Int}(hg:Aer c k (Yz c k n) x0 x1 x2 x3 x4 h):(Yz c k (n+1)).a2 x0 x1 x2 x3 x4 h:=hg
theorem Bkb{l_0:Nat}{c_0 l_1 c_1:Nat}(hg:Aeq c k (Arr c k n) l_0 c_0 l_1 c_1 h):f109 (Arr c k (n+1)) 0 (Ab [.str l_0 c_0,.str l_1 c_1]) h:=hg
theorem Bka{v_0:AV}(hg:Aep c k (Arq c k n) v_0 h):f110 (Arq c k (n+1)) 0 (Ab [v_0]) h:=hg
theorem Bj9{l_0:Nat}{c_0 l_1 c_1:Nat}(hg:Aeo c k (Arp c k n) l_0 c_0 l_1 c_1 h):f112 (Arp c k (n+1)) 0 (Ab [.str l_0 c_0,.str l_1 c_1]) h:=hg
theorem Bj8{l_0 c_0:Nat}(hg:Aen c k (Ahb c k n) l_0 c_0 h):f113 (Ahb c k (n+1)) 0 (Ab [.str l_0 c_0]) h:=hg
theorem A5f{x0 x1:Nat}{x2:Bool}(hg:Aem c k (Ahb c k n) x0 x1 x2 h):(Ahb c k (n+1)).a1 x0 x1 x2 h:=hg
theorem Bj7{l_0 c_0:Nat}(hg:Ael c k (Aro c k n) l_0 c_0 h):f114 (Aro c k (n+1)) 0 (Ab [.str l_0 c_0]) h:=hg
theorem Bj6{l_0:Nat}{c_0 l_1 c_1:Nat}(hg:Ajj c k (Arn c k n) l_0 c_0 l_1 c_1 h):f115 (Arn c k (n+1)) 0 (Ab [.str l_0 c_0,.str l_1 c_1]) h:=hg
theorem Bj5{l_0:Nat}{c_0 l_1 c_1:Nat}(hg:Aek c k (Arm c k n) l_0 c_0 l_1 c_1 h):f116 (Arm c k (n+1)) 0 (Ab [.str l_0 c_0,.str l_1 c_1]) h:=hg
theorem Bj4{l_0 c_0:Nat}{n_1 n_2:Int}(hg:Aej c k (Arl c k n) l_0 c_0 n_1 n_2 h):f117 (Arl c k (n+1)) 0 (Ab [.str l_0 c_0,.int .i64 n_1,.int .i64 n_2]) h:=hg
theorem Bj2{l_1 c_1:Nat}{v_0:AV}(hg:Aeg c k (Ark c k n) v_0 l_1 c_1 h):f136 (Ark c k (n+1)) 0 (Ab [v_0,.str l_1 c_1]) h:=hg
theorem Bj1{b_1:Bool}{v_0:AV}(hg:Aef c k (Arj c k n) v_0 b_1 h):f139 (Arj c k (n+1)) 0 (Ab [v_0,.bool b_1]) h:=hg
theorem Bj0{v_0:AV}(hg:Aee c k (Aex c k n) v_0 h):f140 (Aex c k (n+1)) 0 (Ab [v_0]) h:=hg
theorem A5d{x0 x1:Nat}{x2:AV}{x3 x4:Int}(hg:Aed c k (Aex c k n) x0 x1 x2 x3 x4 h):(Aex c k (n+1)).a1 x0 x1 x2 x3 x4 h:=hg
theorem Bjz{l_1 c_1:Nat}{b_4:Bool}{v_0 v_2 v_3:AV}(hg:Aec c k (Yy c k n) v_0 l_1 c_1 v_2 v_3 b_4 h):f142 (Yy c k (n+1)) 0 (Ab [v_0,.str l_1 c_1,v_2,v_3,.bool b_4]) h:=hg
theorem A5c{x0 x1:Nat}{x2 x3 x4:AV}{x5 x6:Bool}(hg:Aeb c k (Yy c k n) x0 x1 x2 x3 x4 x5 x6 h):(Yy c k (n+1)).a1 x0 x1 x2 x3 x4 x5 x6 h:=hg
theorem A5b{x0:AV}{x1 x2:Nat}{x3:Bool}{x4 x5 x6:AV}{x7:Bool}{x8:AV}{x9 x10:Nat}{x11:Bool}(hg:Aea c k (Yy c k n) x0 x1 x2 x3 x4 x5 x6 x7 x8 x9 x10 x11 h):(Yy c k (n+1)).a2 x0 x1 x2 x3 x4 x5 x6 x7 x8 x9 x10 x11 h:=hg
theorem Bjw{l_0 c_0:Nat}{n_1:Int}(hg:Ad2 c k (Ari c k n) l_0 c_0 n_1 h):f160 (Ari c k (n+1)) 0 (Ab [.str l_0 c_0,.int .u8 n_1]) h:=hg
theorem Bjv{l_0 c_0:Nat}(hg:Ad1 c k (Ns c k n) l_0 c_0 h):f161 (Ns c k (n+1)) 0 (Ab [.str l_0 c_0]) h:=hg
theorem A45{x0 x1:Nat}{x2 x3:Bool}{x4:Int}(hg:Ad0 c k (Ns c k n) x0 x1 x2 x3 x4 h):(Ns c k (n+1)).a1 x0 x1 x2 x3 x4 h:=hg
theorem A44{x0 x1:Nat}{x2:AV}{x3 x4:Int}(hg:Adz c k (Ns c k n) x0 x1 x2 x3 x4 h):(Ns c k (n+1)).a2 x0 x1 x2 x3 x4 h:=hg
theorem A43{x0 x1:Nat}{x2:AV}{x3 x4:Int}(hg:Ady c k (Ns c k n) x0 x1 x2 x3 x4 h):(Ns c k (n+1)).a3 x0 x1 x2 x3 x4 h:=hg
theorem Asr{x0 x1:Nat}{x2:AV}{x3 x4:Int}(hg:Ys c k (Ns c k n) x0 x1 x2 x3 x4 h):(Ns c k (n+1)).a4 x0 x1 x2 x3 x4 h:=hg
theorem A42{x0 x1:Nat}{x2 x3:Bool}(hg:Adx c k (Ns c k n) x0 x1 x2 x3 h):(Ns c k (n+1)).a5 x0 x1 x2 x3 h:=hg
theorem Bju{l_0 c_0:Nat}{n_1:Int}(hg:Adw c k (Arh c k n) l_0 c_0 n_1 h):f162 (Arh c k (n+1)) 0 (Ab [.str l_0 c_0,.int .i32 n_1]) h:=hg
theorem Bjt{l_0:Nat}{c_0 l_1 c_1:Nat}(hg:Adv c k (Arf c k n) l_0 c_0 l_1 c_1 h):f163 (Arf c k (n+1)) 0 (Ab [.str l_0 c_0,.str l_1 c_1]) h:=hg
theorem Bjs{l_0 c_0:Nat}{v_1:AV}(hg:Adu c k (Ag9 c k n) l_0 c_0 v_1 h):f169 (Ag9 c k (n+1)) 0 (Ab [.str l_0 c_0,v_1]) h:=hg
theorem A41{x0 x1:Nat}{x2:AV}(hg:Adt c k (Ag9 c k n) x0 x1 x2 h):(Ag9 c k (n+1)).a1 x0 x1 x2 h:=hg
theorem Bjr{l_0:Nat}{c_0 l_1 c_1:Nat}(hg:Ads c k (Are c k n) l_0 c_0 l_1 c_1 h):f171 (Are c k (n+1)) 0 (Ab [.str l_0 c_0,.str l_1 c_1]) h:=hg
theorem Bjq{l_0:Nat}{c_0 l_1 c_1:Nat}(hg:Adr c k (Ard c k n) l_0 c_0 l_1 c_1 h):f172 (Ard c k (n+1)) 0 (Ab [.str l_0 c_0,.str l_1 c_1]) h:=hg
theorem Bjp{l_0 c_0:Nat}{n_1 n_2:Int}(hg:Adq c k (Pf c k n) l_0 c_0 n_1 n_2 h):f173 (Pf c k (n+1)) 0 (Ab [.str l_0 c_0,.int .i64 n_1,.int .i64 n_2]) h:=hg
theorem A40{x0:Int}{x1:Bool}{x2 x3:Nat}{x4 x5:Int}{x6:Bool}{x7:Int}{x8:AV}{x9 x10:Int}(hg:Adp c k (Pf c k n) x0 x1 x2 x3 x4 x5 x6 x7 x8 x9 x10 h):(Pf c k (n+1)).a1 x0 x1 x2 x3 x4 x5 x6 x7 x8 x9 x10 h:=hg
theorem A4z{x0:Int}{x1:Bool}{x2 x3:Nat}{x4 x5:Int}{x6:Bool}{x7 x8:Int}{x9:AV}{x10 x11:Int}(hg:Ado c k (Pf c k n) x0 x1 x2 x3 x4 x5 x6 x7 x8 x9 x10 x11 h):(Pf c k (n+1)).a2 x0 x1 x2 x3 x4 x5 x6 x7 x8 x9 x10 x11 h:=hg
theorem A4y{x0 x1:Nat}{x2 x3:Int}{x4:Bool}{x5 x6:Nat}{x7:Int}(hg:Adn c k (Pf c k n) x0 x1 x2 x3 x4 x5 x6 x7 h):(Pf c k (n+1)).a3 x0 x1 x2 x3 x4 x5 x6 x7 h:=hg
theorem A4x{x0 x1:Nat}{x2 x3:Int}{x4:Bool}{x5 x6:Nat}(hg:Adm c k (Pf c k n) x0 x1 x2 x3 x4 x5 x6 h):(Pf c k (n+1)).a4 x0 x1 x2 x3 x4 x5 x6 h:=hg
theorem A4w{x0 x1:Nat}{x2 x3:Int}{x4:Bool}{x5 x6:Nat}(hg:Adl c k (Pf c k n) x0 x1 x2 x3 x4 x5 x6 h):(Pf c k (n+1)).a5 x0 x1 x2 x3 x4 x5 x6 h:=hg
theorem Bjo{v_0:AV}(hg:Adk c k (Aew c k n) v_0 h):f184 (Aew c k (n+1)) 0 (Ab [v_0]) h:=hg
theorem A4v{x0 x1:AV}{x2:Bool}(hg:Adj c k (Aew c k n) x0 x1 x2 h):(Aew c k (n+1)).a1 x0 x1 x2 h:=hg
theorem Bjn{l_1 c_1:Nat}{v_0:AV}(hg:Adi c k (Arc c k n) v_0 l_1 c_1 h):f185 (Arc c k (n+1)) 0 (Ab [v_0,.str l_1 c_1]) h:=hg
theorem Bjm{l_0 c_0:Nat}{n_1 n_2:Int}{b_3:Bool}(hg:Adh c k (Arb c k n) l_0 c_0 n_1 n_2 b_3 h):f186 (Arb c k (n+1)) 0 (Ab [.str l_0 c_0,.int .u64 n_1,.int .u64 n_2,.bool b_3]) h:=hg
theorem Bjl{l_0 c_0:Nat}{n_2:Int}{v_1:AV}(hg:Adg c k (Ara c k n) l_0 c_0 v_1 n_2 h):f187 (Ara c k (n+1)) 0 (Ab [.str l_0 c_0,v_1,.int .u64 n_2]) h:=hg
theorem Bjk{l_0 c_0:Nat}{n_1 n_2:Int}{b_3:Bool}(hg:Adf c k (Ag8 c k n) l_0 c_0 n_1 n_2 b_3 h):f188 (Ag8 c k (n+1)) 0 (Ab [.str l_0 c_0,.int .u64 n_1,.int .u64 n_2,.bool b_3]) h:=hg
theorem A4u{x0 x1:Nat}{x2 x3:Int}{x4:Bool}(hg:Ade c k (Ag8 c k n) x0 x1 x2 x3 x4 h):(Ag8 c k (n+1)).a1 x0 x1 x2 x3 x4 h:=hg
theorem Bji{l_0 c_0:Nat}{n_1:Int}(hg:Adb c k (Aq9 c k n) l_0 c_0 n_1 h):f207 (Aq9 c k (n+1)) 0 (Ab [.str l_0 c_0,.int .u8 n_1]) h:=hg
theorem Bjh{n_1:Int}{v_0:AV}(hg:Ada c k (Ajo c k n) v_0 n_1 h):f208 (Ajo c k (n+1)) 0 (Ab [v_0,.int .i64 n_1]) h:=hg
theorem A4t{x0:AV}{x1:Int}(hg:Ac9 c k (Ajo c k n) x0 x1 h):(Ajo c k (n+1)).a1 x0 x1 h:=hg
theorem Bjg{n_1:Int}{v_0:AV}(hg:Ac8 c k (Aq8 c k n) v_0 n_1 h):f215 (Aq8 c k (n+1)) 0 (Ab [v_0,.int .u8 n_1]) h:=hg
theorem Bjf{l_0 c_0:Nat}{v_1:AV}(hg:Ac7 c k (Ag7 c k n) l_0 c_0 v_1 h):f219 (Ag7 c k (n+1)) 0 (Ab [.str l_0 c_0,v_1]) h:=hg
theorem Asq{x0 x1:Nat}{x2:AV}(hg:Yr c k (Ag7 c k n) x0 x1 x2 h):(Ag7 c k (n+1)).a1 x0 x1 x2 h:=hg
theorem Bje{n_0:Int}(hg:Ac6 c k (Aq7 c k n) n_0 h):f221 (Aq7 c k (n+1)) 0 (Ab [.int .u8 n_0]) h:=hg
theorem Bjd{l_0:Nat}{c_0 l_1 c_1:Nat}(hg:Ac5 c k (Aq6 c k n) l_0 c_0 l_1 c_1 h):f224 (Aq6 c k (n+1)) 0 (Ab [.str l_0 c_0,.str l_1 c_1]) h:=hg
theorem Bjc{l_1 c_1:Nat}{v_0:AV}(hg:Ac4 c k (Ag6 c k n) v_0 l_1 c_1 h):f233 (Ag6 c k (n+1)) 0 (Ab [v_0,.str l_1 c_1]) h:=hg
theorem A4s{x0:AV}{x1 x2:Nat}{x3 x4:Int}(hg:Ac3 c k (Ag6 c k n) x0 x1 x2 x3 x4 h):(Ag6 c k (n+1)).a1 x0 x1 x2 x3 x4 h:=hg
theorem Bjb{n_1:Int}{v_0:AV}(hg:Ac2 c k (Aq5 c k n) v_0 n_1 h):f258 (Aq5 c k (n+1)) 0 (Ab [v_0,.int .i64 n_1]) h:=hg
theorem Bja{l_0 c_0:Nat}(hg:Ac1 c k (Aq4 c k n) l_0 c_0 h):f265 (Aq4 c k (n+1)) 0 (Ab [.str l_0 c_0]) h:=hg
end Go.Den
