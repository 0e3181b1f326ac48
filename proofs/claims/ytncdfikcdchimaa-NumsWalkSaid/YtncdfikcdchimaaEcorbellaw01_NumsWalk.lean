/- corbellaw01_NumsWalk, told on plain data. Written by program. -/
import Derived.Test.YtncdfikcdchimaaEcorbellaw01_speaks
import Derived.Test.YtncdfikcdchimaaEnums_Of
import Derived.Test.YtncdfikcdchimaaEnums_Set_Next
import Derived.Test.YtncdfikcdchimaaEnums_Set_Has
import Derived.Test.YtncdfikcdchimaaEnums_Set_Count
set_option linter.unusedVariables false
set_option maxRecDepth 1000000
namespace Go.Proofs.Ytncdfikcdchimaa.Ev
open Go Go.RowKit Go.Proofs
def corbellaw01_NumsWalk_j1 {R : Type} (e0 : Bool → List Int → Bool → Int → Int → Int → Int → Int → Int → Option R) (e1 : Bool → List Int → Int → Int → Int → Int → Int → Int → Option R) (k : Nat) (v_818 : Bool) (v_819 : List Int) (v_820 : Int) (v_821 : Int) (v_822 : Bool) (v_823 : Int) (v_824 : Int) (v_825 : Int) (v_826 : Int) : Option R :=
  bif v_822 then
    e0 v_818 v_819 false v_820 v_821 v_823 v_824 v_825 v_826
  else e1 v_818 v_819 v_820 v_821 v_823 v_824 v_825 v_826
def corbellaw01_NumsWalk_k0 {R : Type} (rc : Bool → List Int → Int → Int → Int → Int → Int → Int → Int → Option R) (e0 : Bool → List Int → Bool → Int → Int → Int → Int → Int → Option R) (e1 : Bool → List Int → Int → Int → Int → Int → Int → Option R) (k : Nat) : Bool → List Int → Bool → Int → Int → Int → Int → Int → Int → Option R := fun v_827 v_828 v_829 v_830 v_831 v_832 v_833 v_834 v_835 =>
  e0 v_827 v_828 v_829 v_830 v_832 v_833 v_834 v_835
def corbellaw01_NumsWalk_k1 {R : Type} (rc : Bool → List Int → Int → Int → Int → Int → Int → Int → Int → Option R) (e0 : Bool → List Int → Bool → Int → Int → Int → Int → Int → Option R) (e1 : Bool → List Int → Int → Int → Int → Int → Int → Option R) (k : Nat) : Bool → List Int → Int → Int → Int → Int → Int → Int → Option R := fun v_836 v_837 v_838 v_839 v_840 v_841 v_842 v_843 =>
  optb (nums_Set_Next k v_840 v_841 v_842 v_843 (wrap64 (v_839 + (1 : Int)))) fun r_844 =>
  rc v_836 v_837 (wrap64 (v_838 + (1 : Int))) v_839 r_844 v_840 v_841 v_842 v_843
def corbellaw01_NumsWalk_l0s {R : Type} (rc : Bool → List Int → Int → Int → Int → Int → Int → Int → Int → Option R) (e0 : Bool → List Int → Bool → Int → Int → Int → Int → Int → Option R) (e1 : Bool → List Int → Int → Int → Int → Int → Int → Option R) (k : Nat) (v_807 : Bool) (v_808 : List Int) (v_809 : Int) (v_810 : Int) (v_811 : Int) (v_812 : Int) (v_813 : Int) (v_814 : Int) (v_815 : Int) : Option R :=
  bif (decide ((0 : Int) ≤ v_811)) then
    bif (decide (v_811 ≤ v_810)) then
      corbellaw01_NumsWalk_j1 (corbellaw01_NumsWalk_k0 rc e0 e1 k) (corbellaw01_NumsWalk_k1 rc e0 e1 k) k v_807 v_808 v_809 v_811 true v_812 v_813 v_814 v_815
    else optb (nums_Set_Has k v_812 v_813 v_814 v_815 v_811) fun r_845 =>
    bif (!r_845) then
      corbellaw01_NumsWalk_j1 (corbellaw01_NumsWalk_k0 rc e0 e1 k) (corbellaw01_NumsWalk_k1 rc e0 e1 k) k v_807 v_808 v_809 v_811 true v_812 v_813 v_814 v_815
    else corbellaw01_NumsWalk_j1 (corbellaw01_NumsWalk_k0 rc e0 e1 k) (corbellaw01_NumsWalk_k1 rc e0 e1 k) k v_807 v_808 v_809 v_811 (decide ((256 : Int) < v_809)) v_812 v_813 v_814 v_815
  else e1 v_807 v_808 v_809 v_812 v_813 v_814 v_815
def corbellaw01_NumsWalk_l0 {R : Type} (e0 : Bool → List Int → Bool → Int → Int → Int → Int → Int → Option R) (e1 : Bool → List Int → Int → Int → Int → Int → Int → Option R) (k : Nat) : Nat → Bool → List Int → Int → Int → Int → Int → Int → Int → Int → Option R
  | 0 => fun _ _ _ _ _ _ _ _ _ => none
  | j + 1 => corbellaw01_NumsWalk_l0s (corbellaw01_NumsWalk_l0 e0 e1 k j) e0 e1 k
def corbellaw01_NumsWalk_j3 {R : Type} (e0 : Bool → List Int → Bool → Int → Int → Int → Int → Int → Int → Option R) (e1 : Bool → List Int → Int → Int → Int → Int → Int → Int → Option R) (k : Nat) (v_873 : Bool) (v_874 : List Int) (v_875 : Int) (v_876 : Int) (v_877 : Bool) (v_878 : Int) (v_879 : Int) (v_880 : Int) (v_881 : Int) : Option R :=
  bif v_877 then
    e0 v_873 v_874 false v_875 v_876 v_878 v_879 v_880 v_881
  else e1 v_873 v_874 v_875 v_876 v_878 v_879 v_880 v_881
def corbellaw01_NumsWalk_j4 {R : Type} (e0 : Bool → List Int → Int → Int → Int → Int → Int → Int → Option R) (k : Nat) (v_899 : Bool) (v_900 : List Int) (v_901 : Int) (v_902 : Int) (v_903 : Int) (v_904 : Int) (v_905 : Int) (v_906 : Int) : Option R :=
  e0 v_899 v_900 v_901 (wrap64 (v_902 + (1 : Int))) v_903 v_904 v_905 v_906
def corbellaw01_NumsWalk_k2 {R : Type} (rc : Bool → List Int → Int → Int → Int → Int → Int → Int → Option R) (e0 : Bool → Int → Int → Int → Int → Int → Option R) (e1 : Int → Int → Int → Int → Int → Option R) (k : Nat) : Bool → List Int → Bool → Int → Int → Int → Int → Int → Int → Option R := fun v_882 v_883 v_884 v_885 v_886 v_887 v_888 v_889 v_890 =>
  e0 v_884 v_885 v_887 v_888 v_889 v_890
def corbellaw01_NumsWalk_k3 {R : Type} (rc : Bool → List Int → Int → Int → Int → Int → Int → Int → Option R) (e0 : Bool → Int → Int → Int → Int → Int → Option R) (e1 : Int → Int → Int → Int → Int → Option R) (k : Nat) : Bool → List Int → Int → Int → Int → Int → Int → Int → Option R := fun v_891 v_892 v_893 v_894 v_895 v_896 v_897 v_898 =>
  corbellaw01_NumsWalk_j4 (fun v_907 v_908 v_909 v_910 v_911 v_912 v_913 v_914 =>
    rc v_907 v_908 v_909 v_910 v_911 v_912 v_913 v_914) k v_891 v_892 v_893 v_894 v_895 v_896 v_897 v_898
def corbellaw01_NumsWalk_l2s {R : Type} (rc : Bool → List Int → Int → Int → Int → Int → Int → Int → Option R) (e0 : Bool → Int → Int → Int → Int → Int → Option R) (e1 : Int → Int → Int → Int → Int → Option R) (k : Nat) (v_861 : Bool) (v_862 : List Int) (v_863 : Int) (v_864 : Int) (v_865 : Int) (v_866 : Int) (v_867 : Int) (v_868 : Int) : Option R :=
  bif (decide (v_864 < (lenI v_862))) then
    bif (decide ((0 : Int) ≤ v_864)) then
      optb (v_862[v_864.toNat]?) fun x_869 =>
      optb (nums_Set_Has k v_865 v_866 v_867 v_868 x_869) fun r_870 =>
      bif (decide ((0 : Int) ≤ v_864)) then
        optb (v_862[v_864.toNat]?) fun x_871 =>
        bif (decide ((0 : Int) ≤ x_871)) then
          bif (decide ((0 : Int) ≤ v_864)) then
            optb (v_862[v_864.toNat]?) fun x_872 =>
            corbellaw01_NumsWalk_j3 (corbellaw01_NumsWalk_k2 rc e0 e1 k) (corbellaw01_NumsWalk_k3 rc e0 e1 k) k v_861 v_862 v_863 v_864 (!(r_870 == (decide (x_872 < (256 : Int))))) v_865 v_866 v_867 v_868
          else none
        else corbellaw01_NumsWalk_j3 (corbellaw01_NumsWalk_k2 rc e0 e1 k) (corbellaw01_NumsWalk_k3 rc e0 e1 k) k v_861 v_862 v_863 v_864 (!(r_870 == false)) v_865 v_866 v_867 v_868
      else none
    else none
  else e1 v_863 v_865 v_866 v_867 v_868
def corbellaw01_NumsWalk_l2 {R : Type} (e0 : Bool → Int → Int → Int → Int → Int → Option R) (e1 : Int → Int → Int → Int → Int → Option R) (k : Nat) : Nat → Bool → List Int → Int → Int → Int → Int → Int → Int → Option R
  | 0 => fun _ _ _ _ _ _ _ _ => none
  | j + 1 => corbellaw01_NumsWalk_l2s (corbellaw01_NumsWalk_l2 e0 e1 k j) e0 e1 k
def corbellaw01_NumsWalk (k : Nat) (a0 : Bool) (a1 : List Int) : Option Bool :=
  optb (corbellaw01_speaks k) fun r_803 =>
  bif (!r_803) then
    some false
  else bif (decide ((300 : Int) < (lenI a1))) then
    some true
  else optb (nums_Of k a0 a1) fun r_804 =>
  optb (nums_Set_Next k r_804.1 r_804.2.1 r_804.2.2.1 r_804.2.2.2 (-5 : Int)) fun r_806 =>
  corbellaw01_NumsWalk_l0 (fun v_846 v_847 v_848 v_849 v_850 v_851 v_852 v_853 =>
    some v_848) (fun v_854 v_855 v_856 v_857 v_858 v_859 v_860 =>
    corbellaw01_NumsWalk_l2 (fun v_915 v_916 v_917 v_918 v_919 v_920 =>
      some v_915) (fun v_921 v_922 v_923 v_924 v_925 =>
      optb (nums_Set_Count k v_922 v_923 v_924 v_925) fun r_926 =>
      some (decide (v_921 = r_926))) k k v_854 v_855 v_856 (0 : Int) v_857 v_858 v_859 v_860) k k a0 a1 (0 : Int) (-1 : Int) r_806 r_804.1 r_804.2.1 r_804.2.2.1 r_804.2.2.2
def corbellaw01_NumsWalk_p (k : Nat) : PF := { ps := [(false, 1)], rs := [(false, 1)], τ := (.sl (.int .i64)), σ := .bool, f := fun x => corbellaw01_NumsWalk k x.1 x.2 }
def corbellaw01_NumsWalk_F (k : Nat) : PT := fcons 10 (corbellaw01_speaks_p k) <| fcons 13 (nums_Of_p k) <| fcons 14 (nums_Set_Next_p k) <| fcons 15 (nums_Set_Has_p k) <| fcons 16 (nums_Set_Count_p k) <| fnone
theorem corbellaw01_NumsWalk_fok (k : Nat) : FOK Try.prog tab (corbellaw01_NumsWalk_F k) := fok_cons (corbellaw01_speaks_ok k) Try.call10 <| fok_cons (nums_Of_ok k) Try.call13 <| fok_cons (nums_Set_Next_ok k) Try.call14 <| fok_cons (nums_Set_Has_ok k) Try.call15 <| fok_cons (nums_Set_Count_ok k) Try.call16 <| fok_none
def corbellaw01_NumsWalk_c0 : Cl := { keep := [0, 3, 4, 5, 6], hl := 1, ad := [], adc := [], bump := [] }
def corbellaw01_NumsWalk_x0 : Cl := { keep := [0, 2, 3, 4], hl := 1, ad := [], adc := [], bump := [] }
def corbellaw01_NumsWalk_c1 : Cl := { keep := [0, 3, 4, 6, 35], hl := 1, ad := [], adc := [], bump := [] }
def corbellaw01_NumsWalk_x1 : Cl := { keep := [0, 2, 3, 4, 6], hl := 1, ad := [], adc := [], bump := [] }
def corbellaw01_NumsWalk_c2 : Cl := { keep := [0, 3, 4, 7], hl := 1, ad := [], adc := [], bump := [] }
def corbellaw01_NumsWalk_x2 : Cl := { keep := [2, 3, 4], hl := 1, ad := [], adc := [], bump := [] }
def corbellaw01_NumsWalk_c3 : Cl := { keep := [0, 3, 4, 7, 63], hl := 1, ad := [], adc := [], bump := [] }
def corbellaw01_NumsWalk_x3 : Cl := { keep := [0, 2, 3, 4, 7], hl := 1, ad := [], adc := [], bump := [] }
def corbellaw01_NumsWalk_c4 : Cl := { keep := [0, 3, 4, 7], hl := 1, ad := [], adc := [], bump := [] }
def corbellaw01_NumsWalk_x4 : Cl := { keep := [0, 3, 4, 7], hl := 1, ad := [], adc := [], bump := [] }
def corbellaw01_NumsWalk_h : Hint := (.sq .no (.sq .no (.sq .no (.sq .no (.sq .no (.sq (.sq .no (.lp corbellaw01_NumsWalk_c0 corbellaw01_NumsWalk_x0 0 (.sq .no (.sq (.sq (.ct corbellaw01_NumsWalk_c1 corbellaw01_NumsWalk_x1 1 .no .no) .no) .no)))) (.sq (.sq .no (.lp corbellaw01_NumsWalk_c2 corbellaw01_NumsWalk_x2 2 (.sq .no (.ct corbellaw01_NumsWalk_c4 corbellaw01_NumsWalk_x4 4 (.ct corbellaw01_NumsWalk_c3 corbellaw01_NumsWalk_x3 3 .no .no) .no)))) .no)))))))
def corbellaw01_NumsWalk_l0_E0 {R : Type} (K : EX → St → Option R) : Bool → List Int → Bool → Int → Int → Int → Int → Int → Option R := fun v0 v1 v2 v3 v4 v5 v6 v7 => K .ret (mkSt 68 [] corbellaw01_NumsWalk_x0.keep [.sl (.int .i64) v0 v1, .bool v2, .ptr 0 0, .int .i64 v3] [.blk [.int .u64 v4, .int .u64 v5, .int .u64 v6, .int .u64 v7]])
def corbellaw01_NumsWalk_l0_E1 {R : Type} (K : EX → St → Option R) : Bool → List Int → Int → Int → Int → Int → Int → Option R := fun v0 v1 v2 v3 v4 v5 v6 => K (.exit 0) (mkSt 68 [] corbellaw01_NumsWalk_x0.keep [.sl (.int .i64) v0 v1, .junk, .ptr 0 0, .int .i64 v2] [.blk [.int .u64 v3, .int .u64 v4, .int .u64 v5, .int .u64 v6]])
def corbellaw01_NumsWalk_l0_S (v_807 : Bool) (v_808 : List Int) (v_809 : Int) (v_810 : Int) (v_811 : Int) (v_812 : Int) (v_813 : Int) (v_814 : Int) (v_815 : Int) : St := mkSt 68 [] corbellaw01_NumsWalk_c0.keep [.sl (.int .i64) v_807 v_808, .ptr 0 0, .int .i64 v_809, .int .i64 v_810, .int .i64 v_811] [.blk [.int .u64 v_812, .int .u64 v_813, .int .u64 v_814, .int .u64 v_815]]
def corbellaw01_NumsWalk_l0_sh : Rd (List AV × List HE) := .pair (.cons (.sl (.int .i64)) (.cons (.ptr 0 0) (.cons (.int .i64) (.cons (.int .i64) (.cons (.int .i64) Rd.nil))))) (.cons (.blk (.cons (.int .u64) (.cons (.int .u64) (.cons (.int .u64) (.cons (.int .u64) Rd.nil))))) Rd.nil)
def corbellaw01_NumsWalk_l0_a {R : Type} (k : Nat) : Alt R := { n := 68, v := [], sh := corbellaw01_NumsWalk_l0_sh, g := fun K x => corbellaw01_NumsWalk_l0 (corbellaw01_NumsWalk_l0_E0 K) (corbellaw01_NumsWalk_l0_E1 K) k k x.1.1.1 x.1.1.2 x.1.2.2.1 x.1.2.2.2.1 x.1.2.2.2.2.1 x.2.1.1 x.2.1.2.1 x.2.1.2.2.1 x.2.1.2.2.2.1 }
def corbellaw01_NumsWalk_j1_E0 {R : Type} (K : EX → St → Option R) : Bool → List Int → Bool → Int → Int → Int → Int → Int → Int → Option R := fun v0 v1 v2 v3 v4 v5 v6 v7 v8 => K .ret (mkSt 68 [] corbellaw01_NumsWalk_x1.keep [.sl (.int .i64) v0 v1, .bool v2, .ptr 0 0, .int .i64 v3, .int .i64 v4] [.blk [.int .u64 v5, .int .u64 v6, .int .u64 v7, .int .u64 v8]])
def corbellaw01_NumsWalk_j1_E1 {R : Type} (K : EX → St → Option R) : Bool → List Int → Int → Int → Int → Int → Int → Int → Option R := fun v0 v1 v2 v3 v4 v5 v6 v7 => K .normal (mkSt 68 [] corbellaw01_NumsWalk_x1.keep [.sl (.int .i64) v0 v1, .junk, .ptr 0 0, .int .i64 v2, .int .i64 v3] [.blk [.int .u64 v4, .int .u64 v5, .int .u64 v6, .int .u64 v7]])
def corbellaw01_NumsWalk_j1_S (v_818 : Bool) (v_819 : List Int) (v_820 : Int) (v_821 : Int) (v_822 : Bool) (v_823 : Int) (v_824 : Int) (v_825 : Int) (v_826 : Int) : St := mkSt 68 [] corbellaw01_NumsWalk_c1.keep [.sl (.int .i64) v_818 v_819, .ptr 0 0, .int .i64 v_820, .int .i64 v_821, .bool v_822] [.blk [.int .u64 v_823, .int .u64 v_824, .int .u64 v_825, .int .u64 v_826]]
def corbellaw01_NumsWalk_j1_sh : Rd (List AV × List HE) := .pair (.cons (.sl (.int .i64)) (.cons (.ptr 0 0) (.cons (.int .i64) (.cons (.int .i64) (.cons .bool Rd.nil))))) (.cons (.blk (.cons (.int .u64) (.cons (.int .u64) (.cons (.int .u64) (.cons (.int .u64) Rd.nil))))) Rd.nil)
def corbellaw01_NumsWalk_j1_a {R : Type} (k : Nat) : Alt R := { n := 68, v := [], sh := corbellaw01_NumsWalk_j1_sh, g := fun K x => corbellaw01_NumsWalk_j1 (corbellaw01_NumsWalk_j1_E0 K) (corbellaw01_NumsWalk_j1_E1 K) k x.1.1.1 x.1.1.2 x.1.2.2.1 x.1.2.2.2.1 x.1.2.2.2.2.1 x.2.1.1 x.2.1.2.1 x.2.1.2.2.1 x.2.1.2.2.2.1 }
def corbellaw01_NumsWalk_l2_E0 {R : Type} (K : EX → St → Option R) : Bool → Int → Int → Int → Int → Int → Option R := fun v0 v1 v2 v3 v4 v5 => K .ret (mkSt 68 [] corbellaw01_NumsWalk_x2.keep [.bool v0, .ptr 0 0, .int .i64 v1] [.blk [.int .u64 v2, .int .u64 v3, .int .u64 v4, .int .u64 v5]])
def corbellaw01_NumsWalk_l2_E1 {R : Type} (K : EX → St → Option R) : Int → Int → Int → Int → Int → Option R := fun v0 v1 v2 v3 v4 => K (.exit 2) (mkSt 68 [] corbellaw01_NumsWalk_x2.keep [.junk, .ptr 0 0, .int .i64 v0] [.blk [.int .u64 v1, .int .u64 v2, .int .u64 v3, .int .u64 v4]])
def corbellaw01_NumsWalk_l2_S (v_861 : Bool) (v_862 : List Int) (v_863 : Int) (v_864 : Int) (v_865 : Int) (v_866 : Int) (v_867 : Int) (v_868 : Int) : St := mkSt 68 [] corbellaw01_NumsWalk_c2.keep [.sl (.int .i64) v_861 v_862, .ptr 0 0, .int .i64 v_863, .int .i64 v_864] [.blk [.int .u64 v_865, .int .u64 v_866, .int .u64 v_867, .int .u64 v_868]]
def corbellaw01_NumsWalk_l2_sh : Rd (List AV × List HE) := .pair (.cons (.sl (.int .i64)) (.cons (.ptr 0 0) (.cons (.int .i64) (.cons (.int .i64) Rd.nil)))) (.cons (.blk (.cons (.int .u64) (.cons (.int .u64) (.cons (.int .u64) (.cons (.int .u64) Rd.nil))))) Rd.nil)
def corbellaw01_NumsWalk_l2_a {R : Type} (k : Nat) : Alt R := { n := 68, v := [], sh := corbellaw01_NumsWalk_l2_sh, g := fun K x => corbellaw01_NumsWalk_l2 (corbellaw01_NumsWalk_l2_E0 K) (corbellaw01_NumsWalk_l2_E1 K) k k x.1.1.1 x.1.1.2 x.1.2.2.1 x.1.2.2.2.1 x.2.1.1 x.2.1.2.1 x.2.1.2.2.1 x.2.1.2.2.2.1 }
def corbellaw01_NumsWalk_j3_E0 {R : Type} (K : EX → St → Option R) : Bool → List Int → Bool → Int → Int → Int → Int → Int → Int → Option R := fun v0 v1 v2 v3 v4 v5 v6 v7 v8 => K .ret (mkSt 68 [] corbellaw01_NumsWalk_x3.keep [.sl (.int .i64) v0 v1, .bool v2, .ptr 0 0, .int .i64 v3, .int .i64 v4] [.blk [.int .u64 v5, .int .u64 v6, .int .u64 v7, .int .u64 v8]])
def corbellaw01_NumsWalk_j3_E1 {R : Type} (K : EX → St → Option R) : Bool → List Int → Int → Int → Int → Int → Int → Int → Option R := fun v0 v1 v2 v3 v4 v5 v6 v7 => K .normal (mkSt 68 [] corbellaw01_NumsWalk_x3.keep [.sl (.int .i64) v0 v1, .junk, .ptr 0 0, .int .i64 v2, .int .i64 v3] [.blk [.int .u64 v4, .int .u64 v5, .int .u64 v6, .int .u64 v7]])
def corbellaw01_NumsWalk_j3_S (v_873 : Bool) (v_874 : List Int) (v_875 : Int) (v_876 : Int) (v_877 : Bool) (v_878 : Int) (v_879 : Int) (v_880 : Int) (v_881 : Int) : St := mkSt 68 [] corbellaw01_NumsWalk_c3.keep [.sl (.int .i64) v_873 v_874, .ptr 0 0, .int .i64 v_875, .int .i64 v_876, .bool v_877] [.blk [.int .u64 v_878, .int .u64 v_879, .int .u64 v_880, .int .u64 v_881]]
def corbellaw01_NumsWalk_j3_sh : Rd (List AV × List HE) := .pair (.cons (.sl (.int .i64)) (.cons (.ptr 0 0) (.cons (.int .i64) (.cons (.int .i64) (.cons .bool Rd.nil))))) (.cons (.blk (.cons (.int .u64) (.cons (.int .u64) (.cons (.int .u64) (.cons (.int .u64) Rd.nil))))) Rd.nil)
def corbellaw01_NumsWalk_j3_a {R : Type} (k : Nat) : Alt R := { n := 68, v := [], sh := corbellaw01_NumsWalk_j3_sh, g := fun K x => corbellaw01_NumsWalk_j3 (corbellaw01_NumsWalk_j3_E0 K) (corbellaw01_NumsWalk_j3_E1 K) k x.1.1.1 x.1.1.2 x.1.2.2.1 x.1.2.2.2.1 x.1.2.2.2.2.1 x.2.1.1 x.2.1.2.1 x.2.1.2.2.1 x.2.1.2.2.2.1 }
def corbellaw01_NumsWalk_j4_E0 {R : Type} (K : EX → St → Option R) : Bool → List Int → Int → Int → Int → Int → Int → Int → Option R := fun v0 v1 v2 v3 v4 v5 v6 v7 => K .normal (mkSt 68 [] corbellaw01_NumsWalk_x4.keep [.sl (.int .i64) v0 v1, .ptr 0 0, .int .i64 v2, .int .i64 v3] [.blk [.int .u64 v4, .int .u64 v5, .int .u64 v6, .int .u64 v7]])
def corbellaw01_NumsWalk_j4_S (v_899 : Bool) (v_900 : List Int) (v_901 : Int) (v_902 : Int) (v_903 : Int) (v_904 : Int) (v_905 : Int) (v_906 : Int) : St := mkSt 68 [] corbellaw01_NumsWalk_c4.keep [.sl (.int .i64) v_899 v_900, .ptr 0 0, .int .i64 v_901, .int .i64 v_902] [.blk [.int .u64 v_903, .int .u64 v_904, .int .u64 v_905, .int .u64 v_906]]
def corbellaw01_NumsWalk_j4_sh : Rd (List AV × List HE) := .pair (.cons (.sl (.int .i64)) (.cons (.ptr 0 0) (.cons (.int .i64) (.cons (.int .i64) Rd.nil)))) (.cons (.blk (.cons (.int .u64) (.cons (.int .u64) (.cons (.int .u64) (.cons (.int .u64) Rd.nil))))) Rd.nil)
def corbellaw01_NumsWalk_j4_a {R : Type} (k : Nat) : Alt R := { n := 68, v := [], sh := corbellaw01_NumsWalk_j4_sh, g := fun K x => corbellaw01_NumsWalk_j4 (corbellaw01_NumsWalk_j4_E0 K) k x.1.1.1 x.1.1.2 x.1.2.2.1 x.1.2.2.2.1 x.2.1.1 x.2.1.2.1 x.2.1.2.2.1 x.2.1.2.2.2.1 }
def corbellaw01_NumsWalk_O {R : Type} (k : Nat) : CutK R := cutsO [[corbellaw01_NumsWalk_l0_a k], [corbellaw01_NumsWalk_j1_a k], [corbellaw01_NumsWalk_l2_a k], [corbellaw01_NumsWalk_j3_a k], [corbellaw01_NumsWalk_j4_a k]]
noncomputable def corbellaw01_NumsWalk_b : List Ob := obs (bodyOf Try.f4) corbellaw01_NumsWalk_h
noncomputable def corbellaw01_NumsWalk_I {R : Type} (k : Nat) : InlT R := inone
theorem corbellaw01_NumsWalk_l0_eq {R : Type} (k : Nat) (K : EX → St → Option R) : ∀ (j : Nat) (v_807 : Bool) (v_808 : List Int) (v_809 : Int) (v_810 : Int) (v_811 : Int) (v_812 : Int) (v_813 : Int) (v_814 : Int) (v_815 : Int), corbellaw01_NumsWalk_l0 (corbellaw01_NumsWalk_l0_E0 K) (corbellaw01_NumsWalk_l0_E1 K) k j v_807 v_808 v_809 v_810 v_811 v_812 v_813 v_814 v_815 = iter corbellaw01_NumsWalk_c0 corbellaw01_NumsWalk_x0 (ev tab (corbellaw01_NumsWalk_F k) (inlK tab (corbellaw01_NumsWalk_F k) (corbellaw01_NumsWalk_I k) 0) (corbellaw01_NumsWalk_O k) (obB corbellaw01_NumsWalk_b 0) (obH corbellaw01_NumsWalk_b 0)) j (corbellaw01_NumsWalk_l0_S v_807 v_808 v_809 v_810 v_811 v_812 v_813 v_814 v_815) K
  | 0, _, _, _, _, _, _, _, _, _ => rfl
  | j + 1, v_807, v_808, v_809, v_810, v_811, v_812, v_813, v_814, v_815 => by
    have e : corbellaw01_NumsWalk_l0 (corbellaw01_NumsWalk_l0_E0 K) (corbellaw01_NumsWalk_l0_E1 K) k j = fun v_807 v_808 v_809 v_810 v_811 v_812 v_813 v_814 v_815 => iter corbellaw01_NumsWalk_c0 corbellaw01_NumsWalk_x0 (ev tab (corbellaw01_NumsWalk_F k) (inlK tab (corbellaw01_NumsWalk_F k) (corbellaw01_NumsWalk_I k) 0) (corbellaw01_NumsWalk_O k) (obB corbellaw01_NumsWalk_b 0) (obH corbellaw01_NumsWalk_b 0)) j (corbellaw01_NumsWalk_l0_S v_807 v_808 v_809 v_810 v_811 v_812 v_813 v_814 v_815) K := by funext v_807 v_808 v_809 v_810 v_811 v_812 v_813 v_814 v_815; exact corbellaw01_NumsWalk_l0_eq k K j v_807 v_808 v_809 v_810 v_811 v_812 v_813 v_814 v_815
    show corbellaw01_NumsWalk_l0s (corbellaw01_NumsWalk_l0 (corbellaw01_NumsWalk_l0_E0 K) (corbellaw01_NumsWalk_l0_E1 K) k j) (corbellaw01_NumsWalk_l0_E0 K) (corbellaw01_NumsWalk_l0_E1 K) k v_807 v_808 v_809 v_810 v_811 v_812 v_813 v_814 v_815 = _
    rw [e, iter_succ]; kernel_rfl
theorem corbellaw01_NumsWalk_l0_ok {R : Type} (k : Nat)  : ObOK (R := R) tab (corbellaw01_NumsWalk_F k) (inlK tab (corbellaw01_NumsWalk_F k) (corbellaw01_NumsWalk_I k) 0) (corbellaw01_NumsWalk_O k) (.loop corbellaw01_NumsWalk_c0 corbellaw01_NumsWalk_x0 0 (obB corbellaw01_NumsWalk_b 0) (obH corbellaw01_NumsWalk_b 0)) :=
  loop_ok (l := [corbellaw01_NumsWalk_l0_a k]) (by kernel_rfl) ⟨(fun K x => ⟨k, (corbellaw01_NumsWalk_l0_eq k K k x.1.1.1 x.1.1.2 x.1.2.2.1 x.1.2.2.2.1 x.1.2.2.2.2.1 x.2.1.1 x.2.1.2.1 x.2.1.2.2.1 x.2.1.2.2.2.1).trans (by kernel_rfl)⟩), trivial⟩
theorem corbellaw01_NumsWalk_j1_eq {R : Type} (k : Nat) (K : EX → St → Option R) (v_818 : Bool) (v_819 : List Int) (v_820 : Int) (v_821 : Int) (v_822 : Bool) (v_823 : Int) (v_824 : Int) (v_825 : Int) (v_826 : Int) : corbellaw01_NumsWalk_j1 (corbellaw01_NumsWalk_j1_E0 K) (corbellaw01_NumsWalk_j1_E1 K) k v_818 v_819 v_820 v_821 v_822 v_823 v_824 v_825 v_826 = ev tab (corbellaw01_NumsWalk_F k) (inlK tab (corbellaw01_NumsWalk_F k) (corbellaw01_NumsWalk_I k) 0) (corbellaw01_NumsWalk_O k) (obB corbellaw01_NumsWalk_b 1) (obH corbellaw01_NumsWalk_b 1) (corbellaw01_NumsWalk_j1_S v_818 v_819 v_820 v_821 v_822 v_823 v_824 v_825 v_826) (fun e st => optb (clean corbellaw01_NumsWalk_x1 st) fun st => K e st) := by kernel_rfl
theorem corbellaw01_NumsWalk_j1_ok {R : Type} (k : Nat)  : ObOK (R := R) tab (corbellaw01_NumsWalk_F k) (inlK tab (corbellaw01_NumsWalk_F k) (corbellaw01_NumsWalk_I k) 0) (corbellaw01_NumsWalk_O k) (.join corbellaw01_NumsWalk_c1 corbellaw01_NumsWalk_x1 1 (obB corbellaw01_NumsWalk_b 1) (obH corbellaw01_NumsWalk_b 1)) :=
  join_ok (l := [corbellaw01_NumsWalk_j1_a k]) (by kernel_rfl) ⟨(fun K x => (corbellaw01_NumsWalk_j1_eq k K x.1.1.1 x.1.1.2 x.1.2.2.1 x.1.2.2.2.1 x.1.2.2.2.2.1 x.2.1.1 x.2.1.2.1 x.2.1.2.2.1 x.2.1.2.2.2.1).trans (by kernel_rfl)), trivial⟩
theorem corbellaw01_NumsWalk_l2_eq {R : Type} (k : Nat) (K : EX → St → Option R) : ∀ (j : Nat) (v_861 : Bool) (v_862 : List Int) (v_863 : Int) (v_864 : Int) (v_865 : Int) (v_866 : Int) (v_867 : Int) (v_868 : Int), corbellaw01_NumsWalk_l2 (corbellaw01_NumsWalk_l2_E0 K) (corbellaw01_NumsWalk_l2_E1 K) k j v_861 v_862 v_863 v_864 v_865 v_866 v_867 v_868 = iter corbellaw01_NumsWalk_c2 corbellaw01_NumsWalk_x2 (ev tab (corbellaw01_NumsWalk_F k) (inlK tab (corbellaw01_NumsWalk_F k) (corbellaw01_NumsWalk_I k) 0) (corbellaw01_NumsWalk_O k) (obB corbellaw01_NumsWalk_b 2) (obH corbellaw01_NumsWalk_b 2)) j (corbellaw01_NumsWalk_l2_S v_861 v_862 v_863 v_864 v_865 v_866 v_867 v_868) K
  | 0, _, _, _, _, _, _, _, _ => rfl
  | j + 1, v_861, v_862, v_863, v_864, v_865, v_866, v_867, v_868 => by
    have e : corbellaw01_NumsWalk_l2 (corbellaw01_NumsWalk_l2_E0 K) (corbellaw01_NumsWalk_l2_E1 K) k j = fun v_861 v_862 v_863 v_864 v_865 v_866 v_867 v_868 => iter corbellaw01_NumsWalk_c2 corbellaw01_NumsWalk_x2 (ev tab (corbellaw01_NumsWalk_F k) (inlK tab (corbellaw01_NumsWalk_F k) (corbellaw01_NumsWalk_I k) 0) (corbellaw01_NumsWalk_O k) (obB corbellaw01_NumsWalk_b 2) (obH corbellaw01_NumsWalk_b 2)) j (corbellaw01_NumsWalk_l2_S v_861 v_862 v_863 v_864 v_865 v_866 v_867 v_868) K := by funext v_861 v_862 v_863 v_864 v_865 v_866 v_867 v_868; exact corbellaw01_NumsWalk_l2_eq k K j v_861 v_862 v_863 v_864 v_865 v_866 v_867 v_868
    show corbellaw01_NumsWalk_l2s (corbellaw01_NumsWalk_l2 (corbellaw01_NumsWalk_l2_E0 K) (corbellaw01_NumsWalk_l2_E1 K) k j) (corbellaw01_NumsWalk_l2_E0 K) (corbellaw01_NumsWalk_l2_E1 K) k v_861 v_862 v_863 v_864 v_865 v_866 v_867 v_868 = _
    rw [e, iter_succ]; kernel_rfl
theorem corbellaw01_NumsWalk_l2_ok {R : Type} (k : Nat)  : ObOK (R := R) tab (corbellaw01_NumsWalk_F k) (inlK tab (corbellaw01_NumsWalk_F k) (corbellaw01_NumsWalk_I k) 0) (corbellaw01_NumsWalk_O k) (.loop corbellaw01_NumsWalk_c2 corbellaw01_NumsWalk_x2 2 (obB corbellaw01_NumsWalk_b 2) (obH corbellaw01_NumsWalk_b 2)) :=
  loop_ok (l := [corbellaw01_NumsWalk_l2_a k]) (by kernel_rfl) ⟨(fun K x => ⟨k, (corbellaw01_NumsWalk_l2_eq k K k x.1.1.1 x.1.1.2 x.1.2.2.1 x.1.2.2.2.1 x.2.1.1 x.2.1.2.1 x.2.1.2.2.1 x.2.1.2.2.2.1).trans (by kernel_rfl)⟩), trivial⟩
theorem corbellaw01_NumsWalk_j3_eq {R : Type} (k : Nat) (K : EX → St → Option R) (v_873 : Bool) (v_874 : List Int) (v_875 : Int) (v_876 : Int) (v_877 : Bool) (v_878 : Int) (v_879 : Int) (v_880 : Int) (v_881 : Int) : corbellaw01_NumsWalk_j3 (corbellaw01_NumsWalk_j3_E0 K) (corbellaw01_NumsWalk_j3_E1 K) k v_873 v_874 v_875 v_876 v_877 v_878 v_879 v_880 v_881 = ev tab (corbellaw01_NumsWalk_F k) (inlK tab (corbellaw01_NumsWalk_F k) (corbellaw01_NumsWalk_I k) 0) (corbellaw01_NumsWalk_O k) (obB corbellaw01_NumsWalk_b 3) (obH corbellaw01_NumsWalk_b 3) (corbellaw01_NumsWalk_j3_S v_873 v_874 v_875 v_876 v_877 v_878 v_879 v_880 v_881) (fun e st => optb (clean corbellaw01_NumsWalk_x3 st) fun st => K e st) := by kernel_rfl
theorem corbellaw01_NumsWalk_j3_ok {R : Type} (k : Nat)  : ObOK (R := R) tab (corbellaw01_NumsWalk_F k) (inlK tab (corbellaw01_NumsWalk_F k) (corbellaw01_NumsWalk_I k) 0) (corbellaw01_NumsWalk_O k) (.join corbellaw01_NumsWalk_c3 corbellaw01_NumsWalk_x3 3 (obB corbellaw01_NumsWalk_b 3) (obH corbellaw01_NumsWalk_b 3)) :=
  join_ok (l := [corbellaw01_NumsWalk_j3_a k]) (by kernel_rfl) ⟨(fun K x => (corbellaw01_NumsWalk_j3_eq k K x.1.1.1 x.1.1.2 x.1.2.2.1 x.1.2.2.2.1 x.1.2.2.2.2.1 x.2.1.1 x.2.1.2.1 x.2.1.2.2.1 x.2.1.2.2.2.1).trans (by kernel_rfl)), trivial⟩
theorem corbellaw01_NumsWalk_j4_eq {R : Type} (k : Nat) (K : EX → St → Option R) (v_899 : Bool) (v_900 : List Int) (v_901 : Int) (v_902 : Int) (v_903 : Int) (v_904 : Int) (v_905 : Int) (v_906 : Int) : corbellaw01_NumsWalk_j4 (corbellaw01_NumsWalk_j4_E0 K) k v_899 v_900 v_901 v_902 v_903 v_904 v_905 v_906 = ev tab (corbellaw01_NumsWalk_F k) (inlK tab (corbellaw01_NumsWalk_F k) (corbellaw01_NumsWalk_I k) 0) (corbellaw01_NumsWalk_O k) (obB corbellaw01_NumsWalk_b 4) (obH corbellaw01_NumsWalk_b 4) (corbellaw01_NumsWalk_j4_S v_899 v_900 v_901 v_902 v_903 v_904 v_905 v_906) (fun e st => optb (clean corbellaw01_NumsWalk_x4 st) fun st => K e st) := by kernel_rfl
theorem corbellaw01_NumsWalk_j4_ok {R : Type} (k : Nat)  : ObOK (R := R) tab (corbellaw01_NumsWalk_F k) (inlK tab (corbellaw01_NumsWalk_F k) (corbellaw01_NumsWalk_I k) 0) (corbellaw01_NumsWalk_O k) (.join corbellaw01_NumsWalk_c4 corbellaw01_NumsWalk_x4 4 (obB corbellaw01_NumsWalk_b 4) (obH corbellaw01_NumsWalk_b 4)) :=
  join_ok (l := [corbellaw01_NumsWalk_j4_a k]) (by kernel_rfl) ⟨(fun K x => (corbellaw01_NumsWalk_j4_eq k K x.1.1.1 x.1.1.2 x.1.2.2.1 x.1.2.2.2.1 x.2.1.1 x.2.1.2.1 x.2.1.2.2.1 x.2.1.2.2.2.1).trans (by kernel_rfl)), trivial⟩
theorem corbellaw01_NumsWalk_cuts {R : Type} (k : Nat) : ∀ c, Try.f4.body = some c → CutsOK (R := R) tab (corbellaw01_NumsWalk_F k) (inlK tab (corbellaw01_NumsWalk_F k) (corbellaw01_NumsWalk_I k) 0) (corbellaw01_NumsWalk_O k) c corbellaw01_NumsWalk_h :=
  cuts_of (l := [.loop corbellaw01_NumsWalk_c0 corbellaw01_NumsWalk_x0 0 (obB corbellaw01_NumsWalk_b 0) (obH corbellaw01_NumsWalk_b 0), .join corbellaw01_NumsWalk_c1 corbellaw01_NumsWalk_x1 1 (obB corbellaw01_NumsWalk_b 1) (obH corbellaw01_NumsWalk_b 1), .loop corbellaw01_NumsWalk_c2 corbellaw01_NumsWalk_x2 2 (obB corbellaw01_NumsWalk_b 2) (obH corbellaw01_NumsWalk_b 2), .join corbellaw01_NumsWalk_c3 corbellaw01_NumsWalk_x3 3 (obB corbellaw01_NumsWalk_b 3) (obH corbellaw01_NumsWalk_b 3), .join corbellaw01_NumsWalk_c4 corbellaw01_NumsWalk_x4 4 (obB corbellaw01_NumsWalk_b 4) (obH corbellaw01_NumsWalk_b 4)]) (by kernel_rfl) ⟨corbellaw01_NumsWalk_l0_ok k, corbellaw01_NumsWalk_j1_ok k, corbellaw01_NumsWalk_l2_ok k, corbellaw01_NumsWalk_j3_ok k, corbellaw01_NumsWalk_j4_ok k, trivial⟩
theorem corbellaw01_NumsWalk_iok {R : Type} (k : Nat) : IOK Try.prog tab (corbellaw01_NumsWalk_F k) (corbellaw01_NumsWalk_I (R := R) k) := iok_none
theorem corbellaw01_NumsWalk_ev (k : Nat) (x : (corbellaw01_NumsWalk_p k).τ.den) : evalF tab (corbellaw01_NumsWalk_F k) (corbellaw01_NumsWalk_p k) (corbellaw01_NumsWalk_I k) 0 (corbellaw01_NumsWalk_O k) corbellaw01_NumsWalk_h Try.f4 x = (corbellaw01_NumsWalk_p k).f x := by kernel_rfl
theorem corbellaw01_NumsWalk_ok (k : Nat) : PFOK Try.prog tab 4 (corbellaw01_NumsWalk_p k) := pfok mixed tabOK (corbellaw01_NumsWalk_fok k) Try.func4 (I := corbellaw01_NumsWalk_I k) (d := 0) (corbellaw01_NumsWalk_iok k) (Q := corbellaw01_NumsWalk_O k) (hi := corbellaw01_NumsWalk_h) (corbellaw01_NumsWalk_cuts k) (corbellaw01_NumsWalk_ev k)
end Go.Proofs.Ytncdfikcdchimaa.Ev
